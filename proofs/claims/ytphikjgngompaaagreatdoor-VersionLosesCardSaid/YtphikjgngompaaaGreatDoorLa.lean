/- Plain: tokens, what scanning a text gives, what parsing tokens gives. -/
import Derived.Test.YtphikjgngompaaaGreatDoorGa
import Derived.Lib.ParseIntB
set_option linter.all false
namespace Go.Proofs.YtphikjgngompaaaGreatDoor.KM
open Go
structure Tk where
 kind:Int
 text:List UInt8
 line:Int
def Tk.row(t:Tk):List V:=[iV t.kind,.str t.text,iV t.line]
def Tk.zero:Tk:=⟨0,[],0⟩
def Gv(c:UInt8):Bool:=K0 c.toNat
def Dx(c:UInt8):Bool:=Mu c.toNat
def H8(c:UInt8):Bool:=Lv c.toNat
def twoS:List (List UInt8):=[[124,124],[38,38],[61,61],[33,61],[60,61],[62,61]]
def oneS:List UInt8:=[60,62,43,45,42,47,37,33,61,40,41,91,93,123,125,44,59]
def greatS:List UInt8:=[57,50,50,51,51,55,50,48,51,54,56,53,52,55,55,53,56,48,55]
def I0(l:List UInt8):Nat:=
 if decide (2<=l.length)&&twoS.elem (l.take 2) then 2 else
 match l with
 | c::_=>if oneS.elem c then 1 else 0
 | []=>0
def Qo(w:List UInt8):Bool:=
 let d:=w.dropWhile (·==48)
 !(decide (19<d.length)||(decide (d.length=19)&&Op.bytesLess greatS d))
def Ey(c:UInt8)(r:List UInt8):List UInt8:=c::r.takeWhile H8
def Ep(c:UInt8)(r:List UInt8):List UInt8:=c::r.takeWhile Dx
def Ry:List UInt8->Bool
 | d::_=>Gv d||d==95
 | []=>false
def J6:List UInt8->Option (Int × List UInt8)
 | []=>none
 | c::r=>
  if Gv c then(if 12<(Ey c r).length then none else some (if Gi (Ey c r) then 3 else 1,Ey c r))
  else if Dx c then(if Ry (r.dropWhile Dx) then none else if Qo (Ep c r) then some (2,Ep c r) else none)
  else if I0 (c::r)=0 then none else some (4,(c::r).take (I0 (c::r)))
def C2:Nat->Int->List UInt8->Option (List Tk)
 | _,_,[]=>some []
 | 0,_,_::_=>none
 | n+1,ln,c::r=>
  if c=10 then C2 n (ln+1) r
  else if c=32\/c=9\/c=13 then C2 n ln r
  else if c=47/\r.head?=some 47 then C2 n ln ((c::r).dropWhile (· != 10))
  else match J6 (c::r) with
  | none=>none
  | some (k,w)=>(C2 n ln ((c::r).drop w.length)).map fun l=>⟨k,w,ln⟩::l
/-! expressions -/
def Av(s:List UInt8):List Tk->Bool
 | t::_=>(t.kind==3||t.kind==4)&&t.text==s
 | []=>false
def opTab:List (List UInt8 × Int × Int):=[([124,124],18,1),([38,38],17,2),([61,61],11,3),([33,61],12,3),([60],13,3),([60,61],14,3),([62],15,3),([62,61],16,3),([43],6,4),([45],7,4),([42],8,5),([47],9,5),([37],10,5)]
def Gj(s:List UInt8):Int × Int:=(opTab.lookup s).getD (0,0)
def H9(lvl:Nat):List Tk->Int
 | t::_=>if t.kind=4 then(if(Gj t.text).2=(lvl:Int) then(Gj t.text).1 else 0) else 0
 | []=>0
def Jv(w:List UInt8):Int:=
 match Lib.parseIntB 64 w with
 | .ok v=>v
 | _=>0
def Jw(op:Int)(x y:Xp):Xp:=⟨op,0,[],true,1,[x,y]⟩
def Pt(op:Int)(x:Xp):Xp:=⟨op,0,[],true,1,[x]⟩
mutual
def pe:Nat->Nat->List Tk->Option (Xp × List Tk)
 | 0,_,_=>none
 | n+1,lvl,ts=>if 5<lvl then pu n ts else
  match pe n (lvl+1) ts with
  | none=>none
  | some (x,r)=>lp n lvl x r
def lp:Nat->Nat->Xp->List Tk->Option (Xp × List Tk)
 | 0,_,_,_=>none
 | n+1,lvl,x,ts=>if H9 lvl ts=0 then some (x,ts) else
  match pe n (lvl+1) ts.tail with
  | none=>none
  | some (y,r)=>if lvl=3 then some (Jw (H9 lvl ts) x y,r) else lp n lvl (Jw (H9 lvl ts) x y) r
def pu:Nat->List Tk->Option (Xp × List Tk)
 | 0,_=>none
 | n+1,ts=>if Av [45] ts then(match pu n ts.tail with
   | none=>none
   | some (x,r)=>some (Pt 4 x,r))
  else if Av [33] ts then(match pu n ts.tail with
   | none=>none
   | some (x,r)=>some (Pt 5 x,r))
  else pp n ts
def pp:Nat->List Tk->Option (Xp × List Tk)
 | 0,_=>none
 | _+1,[]=>none
 | n+1,t::ts=>if t.kind=2 then some (⟨1,Jv t.text,[],true,0,[]⟩,ts)
  else if t.kind=1 then
   (if Av [91] ts then(match pe n 1 ts.tail with
    | none=>none
    | some (x,r)=>if Av [93] r then some (⟨3,0,t.text,true,1,[x]⟩,r.tail) else none)
   else some (⟨2,0,t.text,true,0,[]⟩,ts))
  else if Av [40] (t::ts) then(match pe n 1 ts with
   | none=>none
   | some (x,r)=>if Av [41] r then some (x,r.tail) else none)
  else none
end
/-! statements -/
def wordTab:List (List UInt8 × Int):=[([105,102],2),([119,104,105,108,101],3),([108,111,99,107],4),([114,101,97,100],5),([119,114,105,116,101],6),([116,114,97,110,115,97,99,116,105,111,110],7),([97,116,111,109,105,99],8),([119,97,105,116],9),([110,111,116,105,102,121],10),([110,111,116,105,102,121,97,108,108],11),([115,112,97,119,110],12),([106,111,105,110],13),([115,101,116],14),([103,101,116],15)]
def D8(s:List UInt8):Int:=(wordTab.lookup s).getD 0
def Da:List Tk->Option (List UInt8 × List Tk)
 | t::ts=>if t.kind=1 then some (t.text,ts) else none
 | []=>none
def He:List Tk->Option (Int × List Tk)
 | t::ts=>if t.kind=2 then some (Jv t.text,ts) else none
 | []=>none
def Dy(s:List UInt8)(ts:List Tk):Option (List Tk):=if Av s ts then some ts.tail else none
def An(op line:Int):Sp:=⟨op,line,[],[],true,0,[],Xp.zero,true,0,[],true,0,[]⟩
def AL{p:Prop}(h:p:=by simp[An]):p:=h
def Acr(n:Nat)(ts:List Tk):Option (List Xp × List Tk):=
 if Av [91] ts then
  match pe n 1 ts.tail with
  | none=>none
  | some (x,r)=>(Dy [93] r).map fun r=>([x],r)
 else some ([],ts)
def Se(n:Nat)(line:Int)(ts:List Tk):Option (Sp × List Tk):=
 match Da ts with
 | none=>none
 | some (nm,ts)=>
  match Acr n ts with
  | none=>none
  | some (ix,ts)=>
   match Dy [61] ts with
   | none=>none
   | some ts=>
    match pe n 1 ts with
    | none=>none
    | some (x,ts)=>(Dy [59] ts).map fun ts=>({ An 1 line with nm:=nm,it:=ix.length,idx:=ix,ex:=x },ts)
mutual
def F4:Nat->List Tk->Option (Sp × List Tk)
 | 0,_=>none
 | _+1,[]=>none
 | n+1,t::ts=>
  if t.kind=1 then Se n t.line (t::ts)
  else if t.kind=3 then
   (if D8 t.text=0 then none
   else if D8 t.text=2\/D8 t.text=3 then
    (match pe n 1 ts with
    | none=>none
    | some (x,ts)=>
     match Fa n ts with
     | none=>none
     | some (b,ts)=>
      if D8 t.text=2/\Av [101,108,115,101] ts=true then
       (match Fa n ts.tail with
       | none=>none
       | some (e,ts)=>some ({ An (D8 t.text) t.line with ex:=x,body:=b,els:=e },ts))
      else some ({ An (D8 t.text) t.line with ex:=x,body:=b },ts))
   else if D8 t.text=7\/D8 t.text=8 then
    (match Fa n ts with
    | none=>none
    | some (b,ts)=>some ({ An (D8 t.text) t.line with body:=b },ts))
   else
    (match Da ts with
    | none=>none
    | some (nm,ts)=>
     if D8 t.text=4\/D8 t.text=5\/D8 t.text=6 then
      (match Fa n ts with
      | none=>none
      | some (b,ts)=>some ({ An (D8 t.text) t.line with nm:=nm,body:=b },ts))
     else if D8 t.text=14 then
      (match pe n 1 ts with
      | none=>none
      | some (x,ts)=>(Dy [59] ts).map fun ts=>({ An (D8 t.text) t.line with nm:=nm,ex:=x },ts))
     else if D8 t.text=15 then
      (match Da ts with
      | none=>none
      | some (ar,ts)=>(Dy [59] ts).map fun ts=>({ An (D8 t.text) t.line with nm:=nm,arg:=ar },ts))
     else(Dy [59] ts).map fun ts=>({ An (D8 t.text) t.line with nm:=nm },ts)))
  else none
def Fa:Nat->List Tk->Option (List Sp × List Tk)
 | 0,_=>none
 | n+1,ts=>if Av [123] ts then K8 n ts.tail else none
def K8:Nat->List Tk->Option (List Sp × List Tk)
 | 0,_=>none
 | n+1,ts=>if Av [125] ts then some ([],ts.tail) else
  match F4 n ts with
  | none=>none
  | some (s,r)=>
   match K8 n r with
   | none=>none
   | some (l,r)=>some (s::l,r)
end
/-! declarations, threads, programs -/
def declTab:List (List UInt8 × Int):=[([118,97,114],1),([118,111,108,97,116,105,108,101],2),([109,117,116,101,120],3),([114,119,108,111,99,107],4),([99,111,110,100],5),([102,117,116,117,114,101],6)]
def G8(s:List UInt8):Int:=(declTab.lookup s).getD 0
def Tv(ts:List Tk):Option (Int × List Tk):=
 if Av [91] ts then
  match He ts.tail with
  | none=>none
  | some (n,r)=>if n=0 then none else(Dy [93] r).map fun r=>(n,r)
 else some (0,ts)
def Qp(ts:List Tk):Option (Int × List Tk):=
 if Av [61] ts then
  if Av [45] ts.tail then(He ts.tail.tail).map fun p=>(-p.1,p.2) else He ts.tail
 else some (0,ts)
def R3:List Tk->Option (Dp × List Tk)
 | []=>none
 | t::ts=>
  match Da ts with
  | none=>none
  | some (nm,ts)=>
   if G8 t.text=1 then
    (match Tv ts with
    | none=>none
    | some (sz,ts)=>
       match Qp ts with
       | none=>none
       | some (i,ts)=>(Dy [59] ts).map fun ts=>(⟨1,t.line,nm,sz,i,[]⟩,ts))
   else if G8 t.text=2 then
    (match Qp ts with
    | none=>none
    | some (i,ts)=>(Dy [59] ts).map fun ts=>(⟨2,t.line,nm,0,i,[]⟩,ts))
   else if G8 t.text=5 then
    (match Da ts with
    | none=>none
    | some (on,ts)=>(Dy [59] ts).map fun ts=>(⟨5,t.line,nm,0,0,on⟩,ts))
   else(Dy [59] ts).map fun ts=>(⟨G8 t.text,t.line,nm,0,0,[]⟩,ts)
def Nw:List Tk->Bool
 | t::_=>t.kind==3&&G8 t.text != 0
 | []=>false
def Lm:Nat->List Tk->Option (List Dp × List Tk)
 | 0,_=>none
 | n+1,ts=>if Nw ts then
   (match R3 ts with
   | none=>none
   | some (d,r)=>
    match Lm n r with
    | none=>none
    | some (l,r)=>some (d::l,r))
  else some ([],ts)
def Lw:Nat->List Tk->Option (List (List UInt8) × List Tk)
 | 0,_=>none
 | n+1,ts=>
  match Da ts with
  | none=>none
  | some (nm,ts)=>
   if Av [44] ts then
    (match Lw n ts.tail with
    | none=>none
    | some (l,r)=>some (nm::l,r))
   else(Dy [41] ts).map fun ts=>([nm],ts)
def Ab8(n:Nat)(ts:List Tk):Option (List (List UInt8) × List Tk):=if Av [41] ts then some ([],ts.tail) else Lw n ts
def Sf(n:Nat):List Tk->Option (Tp × List Tk)
 | []=>none
 | t::ts=>
  match Da ts with
  | none=>none
  | some (nm,ts)=>
   match Dy [40] ts with
   | none=>none
   | some ts=>
    match Ab8 n ts with
    | none=>none
    | some (l,ts)=>
       match Fa n ts with
       | none=>none
       | some (b,ts)=>some (⟨nm,t.line,true,0,l,true,0,b⟩,ts)
def Po:List UInt8:=[116,104,114,101,97,100]
def Lq(m:Nat):Nat->List Tk->Option (List Tp × List Tk)
 | 0,_=>none
 | n+1,ts=>if Av Po ts then
   (match Sf m ts with
   | none=>none
   | some (t,r)=>
    match Lq m n r with
    | none=>none
    | some (l,r)=>some (t::l,r))
  else some ([],ts)
def Nb(k:Nat):Nat:=10*k+20
def V9(ts:List Tk):Option (Gp × List Tk):=
 match Lm (ts.length+1) ts with
 | none=>none
 | some (ds,r)=>
  match Lq (Nb ts.length) (ts.length+1) r with
  | none=>none
  | some (l,r)=>if l.isEmpty then none else some (⟨true,0,ds,true,0,l⟩,r)
def Jh(s:List UInt8):Option Gp:=
 if 4096<s.length then none else
 match C2 s.length 1 s with
 | none=>none
 | some ts=>
  match V9 ts with
  | some (p,[])=>some p
  | _=>none
/-! the rows' flags say nothing -/
mutual
def H3:Xp->Xp->Bool
 | ⟨op,n,nm,_,_,l⟩,⟨op',n',nm',_,_,l'⟩=>op==op'&&(n==n'&&(nm==nm'&&Ji l l'))
def Ji:List Xp->List Xp->Bool
 | [],[]=>true
 | x::l,y::l'=>H3 x y&&Ji l l'
 | [],_::_=>false
 | _::_,[]=>false
end
abbrev Kt:=Int × List UInt8
def Tk.kt(t:Tk):Kt:=(t.kind,t.text)
def I6(o:Int × List Kt)(qo:Int):List Kt:=if Bf o.1<qo then(4,[40])::(o.2++[(4,[41])]) else o.2
def Qq(op n:Int)(nm:List UInt8)(ts:List (Int × List Kt)):List Kt:=
 if op=1 then [(2,B4 n)] else if op=2 then [(1,nm)] else
 match ts with
 | [a]=>if op=3 then(1,nm)::(4,[91])::(a.2++[(4,[93])]) else(4,B0 op)::I6 a 6
 | [a,b]=>I6 a (Gg op)++(4,B0 op)::I6 b (Bf op+1)
 | _=>[]
mutual
def Xp.toks:Xp->List Kt
 | ⟨op,n,nm,_,_,l⟩=>Qq op n nm (Xp.tokss l)
def Xp.tokss:List Xp->List (Int × List Kt)
 | []=>[]
 | x::l=>(x.op,x.toks)::Xp.tokss l
end
inductive ShE:Xp->Prop
 | num {n:Int} {z:Bool} {t:Nat}:0<=n/\n<=9223372036854775807->ShE ⟨1,n,[],z,t,[]⟩
 | name {nm:List UInt8} {z:Bool} {t:Nat}:Bm nm=true->ShE ⟨2,0,nm,z,t,[]⟩
 | idx {nm:List UInt8} {z:Bool} {t:Nat} {a:Xp}:Bm nm=true->ShE a->ShE ⟨3,0,nm,z,t,[a]⟩
 | un {op:Int} {z:Bool} {t:Nat} {a:Xp}:op=4\/op=5->ShE a->ShE ⟨op,0,[],z,t,[a]⟩
 | bin {op:Int} {z:Bool} {t:Nat} {a b:Xp}:6<=op/\op<=18->ShE a->ShE b->ShE ⟨op,0,[],z,t,[a,b]⟩
def A9l:((List.range 18).all fun i=>decide ((B0 ((i:Int)+1)).length<=2/\1<=Bf ((i:Int)+1)/\Bf ((i:Int)+1)<=7))=true:=by decide
def Bd8{op:Int}(h:1<=op/\op<=18):∃ i:Nat,i<18/\op=(i:Int)+1:=⟨(op - 1).toNat,by omega,by omega⟩
theorem Afl{op:Int}(h:1<=op/\op<=18):(B0 op).length<=2/\1<=Bf op/\Bf op<=7:=by
 obtain⟨i,hi,rfl⟩:=Bd8 h;exact of_decide_eq_true (Bw.1 A9l i (Ed.2 hi))
def Ayw{x:Xp}(h:ShE x):1<=x.op/\x.op<=18:=by
 cases h with
 | num _=>exact⟨by simp,by simp⟩
 | name=>exact⟨by simp,by simp⟩
 | idx _ _=>exact⟨by simp,by simp⟩
 | un h _=>simp only;omega
 | bin h _ _=>simp only;omega
def Ayx{x:Xp}(h:ShE x):Cn x:=by
 induction h with
 | num h=>exact .num AA
 | name _=>exact .name
 | idx _ _ ih=>exact .idx ih
 | un h _ ih=>exact .un h ih
 | bin h _ _ ih1 ih2=>exact .bin h ih1 ih2
def L7(s:List UInt8):List Kt->Bool
 | t::_=>(t.1==3||t.1==4)&&t.2==s
 | []=>false
def Wq(lvl:Nat):List Kt->Int
 | t::_=>if t.1=4 then(if(Gj t.2).2=(lvl:Int) then(Gj t.2).1 else 0) else 0
 | []=>0
def Tf(s:List UInt8)(ts:List Tk):Av s ts=L7 s (ts.map Tk.kt):=by cases ts<;>rfl
def At4(lvl:Nat)(ts:List Tk):H9 lvl ts=Wq lvl (ts.map Tk.kt):=by cases ts<;>rfl
def A9m:((List.range 13).all fun i=>Gj (B0 ((i:Int)+6))==((i:Int)+6,Bf ((i:Int)+6))&&(1<=Bf ((i:Int)+6))&&(Bf ((i:Int)+6)<=5)&&(B0 ((i:Int)+6) != [91]))=true:=by decide
def Abp{op:Int}(h:6<=op/\op<=18):Gj (B0 op)=(op,Bf op)/\1<=Bf op/\Bf op<=5/\B0 op≠[91]:=by
 obtain⟨i,hi,rfl⟩:∃ i:Nat,i<13/\op=(i:Int)+6:=⟨(op - 6).toNat,by omega,by omega⟩;have:=Bw.1 A9m i (Ed.2 hi);simp only[Ai,beq_iff_eq,decide_eq_true_eq,bne_iff_ne]at this;exact⟨this.1.1.1,this.1.1.2,this.1.2,this.2⟩
def Tw(lvl:Nat)(r:List Kt):Prop:=(∀ l:Nat,lvl<=l->Wq l r=0)/\L7 [91] r=false
def Awt{lvl:Nat}{r:List Kt}(h:Tw lvl r):Tw (lvl+1) r:=⟨fun l hl=>h.1 l AA,h.2⟩
def Ja(x:Xp)(lvl:Nat):Prop:=∀ (n:Nat) (ts:List Tk) (r:List Kt),ts.map Tk.kt=I6 (x.op,x.toks) lvl++r->Tw lvl r->8*ts.length+7<=n+lvl->∃ y qa,pe n lvl ts=some (y,qa)/\qa.map Tk.kt=r/\H3 x y=true
def Ws(x:Xp)(lvl:Nat):Prop:=∀ (n:Nat) (ts:List Tk) (r:List Kt),ts.map Tk.kt=I6 (x.op,x.toks) lvl++r->Tw (lvl+1) r->8*ts.length+7<=n+lvl->∃ y qa m,pe n lvl ts=lp m lvl y qa/\qa.map Tk.kt=r/\H3 x y=true/\8*qa.length<=m+lvl+1/\1<=m
def At5{x:Xp}{lvl:Nat}(h:Ws x lvl):Ja x lvl:=by
 intro n ts r hm hs hn;obtain⟨y,qa,m,h1,h2,h3,h4,h5⟩:=h n ts r hm (Awt hs) hn;refine⟨y,qa,?_,h2,h3⟩;obtain⟨m,rfl⟩:∃ k,m=k+1:=⟨m - 1,by omega⟩;rw[h1,lp,if_pos (by rw[At4,h2];exact hs.1 lvl (Ak _))]
def Alr{ts:List Tk}{a b:List Kt}(h:ts.map Tk.kt=a++b):ts.length=a.length+b.length:=by
 have:=congrArg List.length h;simpa using this
def Akt{x:Xp}{lvl:Nat}(hl:lvl<=5)(qF:Bf x.op≠(lvl:Int))(h:Ja x (lvl+1)):Ws x lvl:=by
 intro n ts r hm hs hn
 have e:I6 (x.op,x.toks) (lvl:Int)=I6 (x.op,x.toks) ((lvl+1:Nat):Int):=by
  unfold I6;simp only;by_cases h1:Bf x.op<(lvl:Int)
  .rw[if_pos h1,if_pos AA]
  .rw[if_neg h1,if_neg AA]
 rw[e]at hm;obtain⟨n,rfl⟩:∃ k,n=k+1:=⟨n - 1,by omega⟩;obtain⟨y,qa,h1,h2,h3⟩:=h n ts r hm hs AA;refine⟨y,qa,n,?_,h2,h3,?_,by omega⟩
 .rw[pe,if_neg AA,h1]
 .have:=Alr hm;have qr:=congrArg List.length h2;simp only[Au]at qr;omega
def Awu{op:Int}(h:6<=op/\op<=18){lvl:Nat}(hl:Bf op<lvl)(r:List Kt):Tw lvl ((4,B0 op)::r):=by
 obtain⟨h1,-,-,h2⟩:=Abp h;refine⟨fun l qE=>?_,?_⟩
 .simp only[Wq,if_true,h1];rw[if_neg AA]
 .unfold L7;simp[h2]
def Rc{x:Xp}{lvl:Int}(h:lvl<=Bf x.op):I6 (x.op,x.toks) lvl=x.toks:=by
 unfold I6;rw[if_neg AP]
def Aku{op:Int}{z:Bool}{t:Nat}{a b:Xp}(h:6<=op/\op<=18):Xp.toks ⟨op,0,[],z,t,[a,b]⟩=I6 (a.op,a.toks) (Gg op)++(4,B0 op)::I6 (b.op,b.toks) (Bf op+1):=by
 simp only[Xp.toks,Xp.tokss,Qq];rw[if_neg AA,if_neg AA]
def At6{op:Int}{z:Bool}{t:Nat}{a b y1 y2:Xp}(h1:H3 a y1=true)(h2:H3 b y2=true):H3 ⟨op,0,[],z,t,[a,b]⟩ (Jw op y1 y2)=true:=by
 simp[H3,Ji,Jw,h1,h2]
def Awv{op:Int}(h:6<=op/\op<=18){ts:List Tk}{r:List Kt}(hm:ts.map Tk.kt=(4,B0 op)::r){lvl:Nat}(hl:Bf op=lvl):∃ t qa,ts=t::qa/\qa.map Tk.kt=r/\H9 lvl ts=op/\op≠0:=by
 cases ts with
 | nil=>cases hm
 | cons t qa=>
  rw[Az]at hm;injection hm with h1 h2;refine⟨t,qa,rfl,h2,?_,by omega⟩;obtain⟨e,-⟩:=Abp h;rw[At4,Az,h1];simp only[Wq,if_true,e,hl]
def Bkc{op:Int}{z:Bool}{t:Nat}{a b:Xp}(h:6<=op/\op<=18){lvl:Nat}(hl:Bf op=lvl)(h3:lvl≠3)(ha:Ws a lvl)(hb:Ja b (lvl+1)):Ws ⟨op,0,[],z,t,[a,b]⟩ lvl:=by
 intro n ts r hm hs hn;obtain⟨-,l1,l2,-⟩:=Abp h;rw[Rc AP,Aku h,Br,Bt]at hm
 have qu:Gg op=(lvl:Int):=by
  unfold Gg;rw[if_neg AA,hl]
 rw[qu]at hm;obtain⟨y1,qd,m,p1,p2,p3,p4,p5⟩:=ha n ts _ hm (Awu h AA _) hn;obtain⟨t1,qh,rfl,q1,q2,q3⟩:=Awv h p2 hl;obtain⟨m,rfl⟩:∃ k,m=k+1:=⟨m - 1,by omega⟩;rw[Ao]at p4;rw[hl,show((lvl:Int)+1)=((lvl+1:Nat):Int) by omega]at q1;obtain⟨y2,qc,s1,s2,s3⟩:=hb m qh r q1 hs AA;refine⟨Jw op y1 y2,qc,m,?_,s2,At6 p3 s3,?_,by omega⟩
 .rw[p1,lp,if_neg (by rw[q2];exact q3),Om,s1];simp only;rw[if_neg h3,q2]
 .have:=Alr q1;have qr:=congrArg List.length s2;simp only[Au]at qr;omega
def Bkd{op:Int}{z:Bool}{t:Nat}{a b:Xp}(h:6<=op/\op<=18)(hl:Bf op=((3:Nat):Int))(ha:Ja a 4)(hb:Ja b 4):Ja ⟨op,0,[],z,t,[a,b]⟩ 3:=by
 intro n ts r hm hs hn;obtain⟨-,l1,l2,-⟩:=Abp h;rw[Rc AP,Aku h,Br,Bt]at hm
 have qu:Gg op=((4:Nat):Int):=by
  unfold Gg;rw[if_pos AA];rfl
 rw[qu]at hm;obtain⟨n,rfl⟩:∃ k,n=k+1:=⟨n - 1,by omega⟩;obtain⟨y1,qd,p1,p2,p3⟩:=ha n ts _ hm (Awu h AA _) AA;have qv:=Alr hm;obtain⟨t1,qh,rfl,q1,q2,q3⟩:=Awv h p2 hl;have qn:=congrArg List.length p2;simp only[Au,Ao]at qv qn;obtain⟨n,rfl⟩:∃ k,n=k+1:=⟨n - 1,by omega⟩;rw[hl,show(((3:Nat):Int)+1)=((4:Nat):Int) by omega]at q1;obtain⟨y2,qc,s1,s2,s3⟩:=hb n qh r q1 (Awt hs) AA;refine⟨Jw op y1 y2,qc,?_,s2,At6 p3 s3⟩;rw[pe,if_neg AA,p1];simp only;rw[lp,if_neg (by rw[q2];exact q3),Om,s1];simp only[if_true];rw[q2]
def Abq{x:Xp}(hx:∀ (n:Nat) (ts:List Tk) (r:List Kt),ts.map Tk.kt=I6 (x.op,x.toks) 6++r->Tw 6 r->8*ts.length<=n->∃ y qa,pu n ts=some (y,qa)/\qa.map Tk.kt=r/\H3 x y=true):Ja x 6:=by
 intro n ts r hm hs hn;obtain⟨n,rfl⟩:∃ k,n=k+1:=⟨n - 1,by omega⟩;obtain⟨y,qa,h1,h2⟩:=hx n ts r hm hs AA;exact⟨y,qa,by rw[pe,if_pos AA,h1],h2⟩
def Ee{ts:List Tk}{k:Int}{w:List UInt8}{r:List Kt}(h:ts.map Tk.kt=(k,w)::r):∃ t qa,ts=t::qa/\t.kind=k/\t.text=w/\qa.map Tk.kt=r:=by
 cases ts with
 | nil=>cases h
 | cons t qa=>
  rw[Az]at h;injection h with h1 h2;unfold Tk.kt at h1;injection h1 with h3 h4;exact⟨t,qa,rfl,h3,h4,h2⟩
def Ahg{n:Nat}{ts:List Tk}(h1:Av [45] ts=false)(h2:Av [33] ts=false):pu (n+1) ts=pp n ts:=by
 rw[pu,h1,h2];rfl
def Wa{s:List UInt8}{t:Tk}{ts:List Tk}(h:t.kind=1\/t.kind=2):Av s (t::ts)=false:=by
 simp only[Av]
 rcases h with h | h<;>rw[h]<;>rfl
def Ph{s w:List UInt8}{t:Tk}{ts:List Tk}(h:t.kind=4)(hw:t.text=w):Av s (t::ts)=(w==s):=by
 simp only[Av];rw[h,hw];rfl
def Mn:Prop:=∀ n:Int,0<=n/\n<=9223372036854775807->Jv (B4 n)=n
def Afm{x:Xp}{k:Nat}(hk:k<=6)(h:Ja x k):∀ (d:Nat),d<=k->(∀ l:Nat,k - d<=l->l<k->Bf x.op≠(l:Int))->Ja x (k - d)
 | 0,_,_=>h
 | d+1,hd,hl=>by
  have ih:=Afm hk h d AA fun l h1 h2=>hl l AA h2
  have e:k - d=k - (d+1)+1:=by omega
  rw[e]at ih;exact At5 (Akt AA (hl _ (Ak _) AA) ih)
def Bke{x:Xp}(hx:Bf x.op<6)(h:Ja x 1)(h1:1<=Bf x.op):Ja x 6:=by
 refine Abq fun n ts r hm hs hn=>?_
 unfold I6 at hm;rw[if_pos (by simpa using hx)]at hm;simp only[Bt,Br,Be]at hm;obtain⟨t,qa,rfl,k1,k2,k3⟩:=Ee hm;rw[Ao]at hn;obtain⟨n,rfl⟩:∃ k,n=k+2:=⟨n - 2,by omega⟩;rw[Ahg (by rw[Ph k1 k2];rfl) (by rw[Ph k1 k2];rfl),pp,if_neg AA,if_neg AA,if_pos (by rw[Ph k1 k2];rfl)]
 obtain⟨y,qd,p1,p2,p3⟩:=h n qa _ (by rw[Rc (by simpa using h1)];exact k3) ⟨fun l _=>by
  simp only[Wq,if_true];rw[show Gj [41]=(0,0) from rfl]
  split<;>rfl,rfl⟩ AA
 obtain⟨t2,qc,rfl,e1,e2,e3⟩:=Ee p2;refine⟨y,qc,?_,e3,p3⟩;rw[p1];simp only;rw[if_pos (by rw[Ph e1 e2];rfl)];rfl
def Bkf(qb:Mn){x:Xp}(h:ShE x):∀ lvl:Nat,1<=lvl->lvl<=6->Ja x lvl/\(lvl≠3->lvl<=5->Ws x lvl):=by
 have qf:∀ {x:Xp},(6<=Bf x.op)->Ja x 6->∀ lvl:Nat,1<=lvl->lvl<=6->Ja x lvl/\(lvl≠3->lvl<=5->Ws x lvl):=by
  intro x h6 h lvl l1 l2
  have hr:∀ l:Nat,1<=l->l<=6->Ja x l:=fun l h1 h2=>by
   have:=Afm (Ak 6) h (6 - l) AA fun k _ hk=>by omega
   rwa [show 6 - (6 - l)=l by omega]at this
  exact⟨hr lvl l1 l2,fun _ h5=>Akt h5 AA (hr (lvl+1) AA AA)⟩
 induction h with
 | @num n z t hn=>
  refine qf AV (Abq fun m ts r hm hs hl=>?_);rw[Rc AV]at hm;obtain⟨t1,qa,rfl,k1,k2,k3⟩:=Ee (r:=r) (k:=2) (w:=B4 n) (by simpa[Xp.toks,Qq] using hm);rw[Ao]at hl;obtain⟨m,rfl⟩:∃ k,m=k+2:=⟨m - 2,by omega⟩;rw[Ahg (Wa (.inr k1)) (Wa (.inr k1)),pp,if_pos k1];exact⟨_,_,rfl,k3,by rw[k2,qb n hn];simp[H3,Ji]⟩
 | @name nm z t hn=>
  refine qf AV (Abq fun m ts r hm hs hl=>?_);rw[Rc AV]at hm;obtain⟨t1,qa,rfl,k1,k2,k3⟩:=Ee (r:=r) (k:=1) (w:=nm) (by simpa[Xp.toks,Qq] using hm);rw[Ao]at hl;obtain⟨m,rfl⟩:∃ k,m=k+2:=⟨m - 2,by omega⟩;have qC:Av [91] qa=false:=by rw[Tf,k3];exact hs.2
  rw[Ahg (Wa (.inl k1)) (Wa (.inl k1)),pp,if_neg AA,if_pos k1,qC];exact⟨_,_,rfl,k3,by rw[k2];simp[H3,Ji]⟩
 | @idx nm z t a hn ha ih=>
  refine qf AV (Abq fun m ts r hm hs hl=>?_);rw[Rc AV]at hm;obtain⟨t1,qd,rfl,k1,k2,k3⟩:=Ee (r:=(4,[91])::(a.toks++(4,[93])::r)) (k:=1) (w:=nm) (by simpa[Xp.toks,Xp.tokss,Qq] using hm);obtain⟨t2,qc,rfl,k4,k5,k6⟩:=Ee k3;simp only[Ao]at hl;obtain⟨m,rfl⟩:∃ k,m=k+2:=⟨m - 2,by omega⟩
  have qe:1<=Bf a.op:=by
   exact(Afl (Ayw ha)).2.1
  obtain⟨y,qi,p1,p2,p3⟩:=(ih 1 AA AA).1 m qc ((4,[93])::r) (by rw[Rc (by simpa using qe)];exact k6) ⟨fun l _=>by
   simp only[Wq,if_true];rw[show Gj [93]=(0,0) from rfl]
   split<;>rfl,rfl⟩ AA
  obtain⟨t4,qm,rfl,e1,e2,e3⟩:=Ee p2;rw[Ahg (Wa (.inl k1)) (Wa (.inl k1)),pp,if_neg AA,if_pos k1,if_pos (by rw[Ph k4 k5];rfl),Om,p1];simp only;rw[if_pos (by rw[Ph e1 e2];rfl)];exact⟨_,_,rfl,e3,by rw[k2];simp[H3,Ji,p3]⟩
 | @un op z t a qe ha ih=>
  have qw:Bf op=6:=by rcases qe with rfl | rfl<;>rfl
  refine qf (by simp[qw]) (Abq fun m ts r hm hs hl=>?_);rw[Rc (by simp[qw])]at hm
  have e1:Xp.toks ⟨op,0,[],z,t,[a]⟩=(4,B0 op)::I6 (a.op,a.toks) 6:=by
   simp only[Xp.toks,Xp.tokss,Qq];rw[if_neg AA,if_neg AA,if_neg AA]
  rw[e1,Bt]at hm;obtain⟨t1,qd,rfl,k1,k2,k3⟩:=Ee hm;simp only[Ao]at hl;obtain⟨m,rfl⟩:∃ k,m=k+1:=⟨m - 1,by omega⟩;obtain⟨y,qc,p1,p2,p3⟩:=(ih 6 AA AA).1 (m+1) qd r k3 hs AA;rw[pe,if_pos AA]at p1;rcases qe with rfl | rfl
  .rw[pu,if_pos (by rw[Ph k1 k2];rfl),Om,p1];exact⟨_,_,rfl,p2,by simp[H3,Ji,Pt,p3]⟩
  .rw[pu,if_neg (by rw[Ph k1 k2];decide),if_pos (by rw[Ph k1 k2];rfl),Om,p1];exact⟨_,_,rfl,p2,by simp[H3,Ji,Pt,p3]⟩
 | @bin op z t a b qe ha hb iha ihb=>
  obtain⟨-,l1,l2,-⟩:=Abp qe;obtain⟨L,hL⟩:∃ L:Nat,Bf op=L:=⟨(Bf op).toNat,by omega⟩
  have own:Ja ⟨op,0,[],z,t,[a,b]⟩ L/\(L≠3->Ws ⟨op,0,[],z,t,[a,b]⟩ L):=by
   by_cases h3:L=3
   .subst h3;exact⟨Bkd qe hL (iha 4 AA AA).1 (ihb 4 AA AA).1,fun h=>absurd rfl h⟩
   .have:=Bkc (z:=z) (t:=t) qe hL h3 ((iha L AA AA).2 h3 AA) (ihb (L+1) AA AA).1;exact⟨At5 this,fun _=>this⟩
  have low:∀ l:Nat,1<=l->l<=L->Ja ⟨op,0,[],z,t,[a,b]⟩ l:=fun l h1 h2=>by
   have:=Afm AA own.1 (L - l) AA fun k h3 h4=>by simp only;omega
   rwa [show L - (L - l)=l by omega]at this
  have qD:=Bke AP (low 1 AA AA) AP
  have hr:∀ l:Nat,1<=l->l<=6->Ja ⟨op,0,[],z,t,[a,b]⟩ l:=fun l h1 h2=>by
   by_cases hl:l<=L
   .exact low l h1 hl
   .have:=Afm (Ak 6) qD (6 - l) AA fun k h3 h4=>by simp only;omega
    rwa [show 6 - (6 - l)=l by omega]at this
  intro lvl q1 q2;refine⟨hr lvl q1 q2,fun h3 h5=>?_⟩;by_cases hl:lvl=L
  .subst hl;exact own.2 h3
  .exact Akt h5 AP (hr (lvl+1) AA AA)
/-! what a shaped program has -/
def X4(x:Xp):Prop:=x.op=0/\x.n=0/\x.nm=[]/\x.l=[]
def F6(op:Int):Bool:=op==2||(op==3||(op==7||op==8))
def Em(op:Int):Bool:=op==1||(op==2||(op==3||op==14))
inductive ShS:Sp->Prop
 | mk {s:Sp}:1<=s.op/\s.op<=15->(F6 s.op=true->s.nm=[])->(F6 s.op=false->Bm s.nm=true)->(s.op=15->Bm s.arg=true)->(s.op≠15->s.arg=[]) ->
   s.idx.length<=1->(s.op≠1->s.idx=[])->(∀ x∈s.idx,ShE x)->(Em s.op=true->ShE s.ex)->(Em s.op=false->X4 s.ex) ->
   (Bv s.op=false->s.body=[])->(s.op≠2->s.els=[])->(∀ x∈s.body,ShS x)->(∀ x∈s.els,ShS x)->ShS s
structure ShD (d:Dp):Prop where
 kind:1<=d.kind/\d.kind<=6
 nm:Bm d.nm=true
 size:0<=d.size/\d.size<=9223372036854775807/\(d.kind≠1->d.size=0)
 init : -9223372036854775808<d.init/\d.init<=9223372036854775807/\(d.kind≠1->d.kind≠2->d.init=0)
 on:(d.kind=5->Bm d.on=true)/\(d.kind≠5->d.on=[])
structure ShG (p:Gp):Prop where
 decls:∀ d∈p.decls,ShD d
 nms:∀ t∈p.thrs,Bm t.nm=true
 locs:∀ t∈p.thrs,∀ s∈t.locals,Bm s=true
 thrs:∀ t∈p.thrs,∀ s∈t.body,ShS s
 some:p.thrs≠[]
def Amn{s:Sp}(h:ShS s):CnS s:=by
 induction h with
 | mk h1 h2 h3 h4 h5 h6 h7 h8 h9 h10 h11 h12 h13 h14 ih1 ih2=>
  refine .mk h1 h6 h7 (fun x hx=>Ayx (h8 x hx)) (fun hv=>Ayx (h9 ?_)) h11 h12 ih1 ih2
  rcases hv with h | h | h | h<;>rw[h]<;>rfl
def Amo{p:Gp}(h:ShG p):CnG p:=⟨fun d hd=>let h:=h.decls d hd;⟨h.kind,h.size,by have:=h.init;omega,by have:=h.init;omega,h.init.2.2⟩,fun t ht s hs=>Amn (h.thrs t ht s hs)⟩
/-! equal apart from lines -/
mutual
def Ty:Sp->Sp->Bool
 | ⟨op,_,nm,arg,_,_,idx,ex,_,_,body,_,_,els⟩,⟨op',_,nm',arg',_,_,idx',ex',_,_,body',_,_,els'⟩=>op==op'&&(nm==nm'&&(arg==arg'&&(H3 ex ex'&&(Ji idx idx'&&(Mf body body'&&Mf els els')))))
def Mf:List Sp->List Sp->Bool
 | [],[]=>true
 | x::l,y::l'=>Ty x y&&Mf l l'
 | [],_::_=>false
 | _::_,[]=>false
end
def Ab9(a b:Dp):Bool:=a.kind==b.kind&&(a.nm==b.nm&&(a.size==b.size&&(a.init==b.init&&a.on==b.on)))
def Wb(a b:Tp):Bool:=a.nm==b.nm&&(a.locals==b.locals&&Mf a.body b.body)
def Wc(a b:Gp):Bool:=(a.decls.length==b.decls.length&&(a.decls.zip b.decls).all fun p=>Ab9 p.1 p.2)&&(a.thrs.length==b.thrs.length&&(a.thrs.zip b.thrs).all fun p=>Wb p.1 p.2)
/-! tokens -/
def Y3(l:List Xp):List Kt:=match l with
 | a::_=>(4,[91])::(a.toks++[(4,[93])])
 | []=>[]
def Yp(s:Sp):List Kt:=
 if s.op=1 then(1,s.nm)::(Y3 s.idx++(4,[61])::s.ex.toks)
 else if s.op=2\/s.op=3 then(3,Cp s.op)::s.ex.toks
 else if s.op=7\/s.op=8 then [(3,Cp s.op)]
 else if s.op=14 then(3,Cp s.op)::(1,s.nm)::s.ex.toks
 else if s.op=15 then [(3,Cp s.op),(1,s.nm),(1,s.arg)]
 else [(3,Cp s.op),(1,s.nm)]
def Tz:List UInt8:=[101,108,115,101]
mutual
def Sp.toks:Sp->List Kt
 | ⟨op,line,nm,arg,iz,it,idx,ex,bz,bt,body,ez,et,els⟩=>
  Yp ⟨op,line,nm,arg,iz,it,idx,ex,bz,bt,body,ez,et,els⟩ ++
   if Bv op then(4,[123])::(Sp.tokss body++(4,[125])::(if els.isEmpty then [] else(3,Tz)::(4,[123])::(Sp.tokss els++[(4,[125])]))) else [(4,[59])]
def Sp.tokss:List Sp->List Kt
 | []=>[]
 | x::l=>x.toks++Sp.tokss l
end
def A55:((List.range 14).all fun i=>D8 (Cp ((i:Int)+2))==(i:Int)+2)=true:=by decide
def Bd9{op:Int}(h:2<=op/\op<=15):D8 (Cp op)=op:=by
 obtain⟨i,hi,rfl⟩:∃ i:Nat,i<14/\op=(i:Int)+2:=⟨(op - 2).toNat,by omega,by omega⟩;simpa using Bw.1 A55 i (Ed.2 hi)
def Afn(qb:Mn){x:Xp}(h:ShE x){n:Nat}{ts:List Tk}{r:List Kt}(hm:ts.map Tk.kt=x.toks++r)(hs:Tw 1 r)(hn:8*ts.length+7<=n+1):∃ y qa,pe n 1 ts=some (y,qa)/\qa.map Tk.kt=r/\H3 x y=true:=by
 refine(Bkf qb h 1 AA AA).1 n ts r ?_ hs hn;have:=(Afl (Ayw h)).2.1;rw[Rc (by simpa using this)];exact hm
def Aeg{w:List UInt8}(h1:Gj w=(0,0))(h2:(w==[91])=false)(r:List Kt):Tw 1 ((4,w)::r):=⟨fun l _=>by
 simp only[Wq,if_true,h1]
 split<;>rfl,by simp only[L7];simp at h2 ⊢;exact h2⟩
def P6{k:Int}{w:List UInt8}{t:Tk}{ts:List Tk}(hk:k=3\/k=4)(h:t.kind=k)(hw:t.text=w):Av w (t::ts)=true:=by
 simp only[Av];rw[h,hw]
 rcases hk with rfl | rfl<;>simp
def M9{w:List UInt8}{ts:List Tk}{r:List Kt}(h:ts.map Tk.kt=(4,w)::r):∃ qa,Dy w ts=some qa/\qa.map Tk.kt=r:=by
 obtain⟨t,qa,rfl,h1,h2,h3⟩:=Ee h;exact⟨qa,by simp only[Dy];rw[P6 (.inr rfl) h1 h2];rfl,h3⟩
def O4{w:List UInt8}{ts:List Tk}{r:List Kt}(h:ts.map Tk.kt=(1,w)::r):∃ qa,Da ts=some (w,qa)/\qa.map Tk.kt=r:=by
 obtain⟨t,qa,rfl,h1,h2,h3⟩:=Ee h;exact⟨qa,by simp only[Da];rw[if_pos h1,h2],h3⟩
def H5{ts:List Tk}{r:List Kt}(h:ts.map Tk.kt=r):ts.length=r.length:=by
 have:=congrArg List.length h;simpa using this
def Bkg(qb:Mn){s:Sp}(h1:s.idx.length<=1)(h2:∀ x∈s.idx,ShE x)(h3:ShE s.ex){n:Nat}{line:Int}{ts:List Tk}{r:List Kt}(hm:ts.map Tk.kt=(1,s.nm)::(Y3 s.idx++(4,[61])::(s.ex.toks++(4,[59])::r)))(hn:8*ts.length+7<=n+1):
  ∃ s' qa,Se n line ts=some (s',qa)/\qa.map Tk.kt=r/\s'.op=1/\s'.nm=s.nm/\s'.arg=[]/\Ji s.idx s'.idx=true/\H3 s.ex s'.ex=true/\s'.body=[]/\s'.els=[]:=by
 have hl:=H5 hm;obtain⟨qd,a1,a2⟩:=O4 hm;have qk:=H5 a2;simp only[Ao,Ar]at hl qk
 have qt:∃ ix qc,Acr n qd=some (ix,qc)/\qc.map Tk.kt=(4,[61])::(s.ex.toks++(4,[59])::r)/\Ji s.idx ix=true:=by
  unfold Acr
  match hi:s.idx,h1 with
  | [],_=>
   rw[hi]at a2;obtain⟨t,qa,rfl,k1,k2,k3⟩:=Ee a2;rw[if_neg (by rw[Ph k1 k2];decide)];exact⟨_,_,rfl,a2,rfl⟩
  | [a],_=>
   rw[hi]at a2;simp only[Y3,Bt,Br,Be]at a2;obtain⟨t,qa,rfl,k1,k2,k3⟩:=Ee a2;have qg:=H5 k3;simp only[Ao,Ar]at qg qk;obtain⟨y,qi,p1,p2,p3⟩:=Afn qb (h2 a (by rw[hi];simp)) k3 (Aeg rfl rfl _) (n:=n) (by rw[hi]at hl qk;simp only[Y3,Ao,Ar]at hl qk;omega);obtain⟨qm,q1,q2⟩:=M9 p2;rw[if_pos (by rw[Ph k1 k2];rfl),Om,p1];simp only;rw[q1];exact⟨_,_,rfl,q2,by simp[Ji,p3]⟩
  | _::_::_,h=>simp at h
 obtain⟨ix,qc,b1,b2,b3⟩:=qt;obtain⟨qi,c1,c2⟩:=M9 b2;have ql:=H5 c2;simp only[Ao,Ar]at ql;obtain⟨y,qm,d1,d2,d3⟩:=Afn qb h3 c2 (Aeg rfl rfl _) (n:=n) AA;obtain⟨qx,e1,e2⟩:=M9 d2;refine⟨{ An 1 line with nm:=s.nm,it:=ix.length,idx:=ix,ex:=y },qx,?_,e2,rfl,rfl,rfl,b3,d3,rfl,rfl⟩;unfold Se;rw[a1];simp only;rw[b1];simp only;rw[c1];simp only;rw[d1];simp only;rw[e1];rfl
def S7{s s':Sp}(h1:s.op=s'.op)(h2:s.nm=s'.nm)(h3:s.arg=s'.arg)(h4:H3 s.ex s'.ex=true)(h5:Ji s.idx s'.idx=true)(h6:Mf s.body s'.body=true)(h7:Mf s.els s'.els=true):Ty s s'=true:=by
 cases s;cases s';simp only at h1 h2 h3 h4 h5 h6 h7;subst h1 h2 h3;simp[Ty,h4,h5,h6,h7]
def Ad7{x:Xp}(h:X4 x):H3 x Xp.zero=true:=by
 obtain⟨h1,h2,h3,h4⟩:=h;cases x;simp only at h1 h2 h3 h4;subst h1 h2 h3 h4;rfl
def RTs(s:Sp):Prop:=∀ (n:Nat) (ts:List Tk) (r:List Kt),ts.map Tk.kt=s.toks++r->L7 Tz r=false->10*ts.length+10<=n->∃ s' qa,F4 n ts=some (s',qa)/\qa.map Tk.kt=r/\Ty s s'=true
def Arz{s:Sp}(h:ShS s):∃ k w l,s.toks=(k,w)::l/\((k=1/\s.op=1)\/(k=3/\w=Cp s.op/\2<=s.op/\s.op<=15)):=by
 obtain⟨op,line,nm,arg,iz,it,idx,ex,bz,bt,body,ez,et,els⟩:=s
 cases h with
 | mk h1=>
  simp only at h1;simp only[Sp.toks,Yp];by_cases a:op=1
  .rw[if_pos a];exact⟨_,_,_,rfl,.inl ⟨rfl,a⟩⟩
  rw[if_neg a];have hr:2<=op/\op<=15:=by omega
  by_cases b:op=2\/op=3
  .rw[if_pos b];exact⟨_,_,_,rfl,.inr ⟨rfl,rfl,hr⟩⟩
  rw[if_neg b];by_cases c:op=7\/op=8
  .rw[if_pos c];exact⟨_,_,_,rfl,.inr ⟨rfl,rfl,hr⟩⟩
  rw[if_neg c];by_cases d:op=14
  .rw[if_pos d];exact⟨_,_,_,rfl,.inr ⟨rfl,rfl,hr⟩⟩
  rw[if_neg d];by_cases e:op=15
  .rw[if_pos e];exact⟨_,_,_,rfl,.inr ⟨rfl,rfl,hr⟩⟩
  rw[if_neg e];exact⟨_,_,_,rfl,.inr ⟨rfl,rfl,hr⟩⟩
def A4b:((List.range 14).all fun i=>Cp ((i:Int)+2) != Tz)=true:=by decide
def Aqk{s:Sp}(h:ShS s)(r:List Kt):L7 Tz (s.toks++r)=false/\L7 [125] (s.toks++r)=false:=by
 obtain⟨k,w,l,e,hk⟩:=Arz h;rw[e,Bt];rcases hk with⟨rfl,-⟩ | ⟨rfl,rfl,h2⟩
 .exact⟨rfl,rfl⟩
 .obtain⟨i,hi,he⟩:∃ i:Nat,i<14/\s.op=(i:Int)+2:=⟨(s.op - 2).toNat,by omega,by omega⟩;have h1:=Bw.1 A4b i (Ed.2 hi);have h2:((List.range 14).all fun i=>Cp ((i:Int)+2) != [125])=true:=by decide
  have h2:=Bw.1 h2 i (Ed.2 hi);rw[<-he]at h1 h2;simp only[bne_iff_ne,ne_eq]at h1 h2;simp only[L7];simp[h1,h2]
def Aww:∀ {l:List Sp},(∀ s∈l,ShS s)->(∀ s∈l,RTs s)->∀ {n:Nat} {ts:List Tk} {r:List Kt},ts.map Tk.kt=Sp.tokss l++(4,[125])::r->10*ts.length+11<=n->∃ l' qa,K8 n ts=some (l',qa)/\qa.map Tk.kt=r/\Mf l l'=true
 | [],_,_,n,ts,r,hm,hn=>by
  obtain⟨n,rfl⟩:∃ k,n=k+1:=⟨n - 1,by omega⟩;simp only[Sp.tokss,Be]at hm;obtain⟨t,qa,rfl,k1,k2,k3⟩:=Ee hm;exact⟨[],qa,by rw[K8,if_pos (P6 (.inr rfl) k1 k2)];rfl,k3,rfl⟩
 | s::l,h1,h2,n,ts,r,hm,hn=>by
  obtain⟨n,rfl⟩:∃ k,n=k+1:=⟨n - 1,by omega⟩;simp only[Sp.tokss,Br]at hm;have hs:=h1 s B7
  have qs:L7 Tz (Sp.tokss l++(4,[125])::r)=false:=by
   cases l with
   | nil=>rfl
   | cons s2 l=>
    simp only[Sp.tokss,Br];exact(Aqk (h1 s2 AE) _).1
  obtain⟨s',qd,p1,p2,p3⟩:=h2 s B7 n ts _ hm qs AA;have hl:=H5 hm;have qk:=H5 p2;obtain⟨k,w,q,e,-⟩:=Arz hs;rw[e]at hl;simp only[Ao,Ar]at hl qk;obtain⟨l',qc,q1,q2,q3⟩:=Aww (n:=n) (l:=l) (fun s hs=>h1 s (Ci _ hs)) (fun s hs=>h2 s (Ci _ hs)) p2 AA;refine⟨s'::l',qc,?_,q2,by simp[Mf,p3,q3]⟩;rw[K8,if_neg (by rw[Tf,hm,(Aqk hs _).2];simp),p1];simp only;rw[q1]
def Aak{l:List Sp}(h1:∀ s∈l,ShS s)(h2:∀ s∈l,RTs s){n:Nat}{ts:List Tk}{r:List Kt}(hm:ts.map Tk.kt=(4,[123])::(Sp.tokss l++(4,[125])::r))(hn:10*ts.length+2<=n):∃ l' qa,Fa n ts=some (l',qa)/\qa.map Tk.kt=r/\Mf l l'=true:=by
 obtain⟨t,qa,rfl,k1,k2,k3⟩:=Ee hm;rw[Ao]at hn;obtain⟨n,rfl⟩:∃ k,n=k+1:=⟨n - 1,by omega⟩;obtain⟨l',qd,p1,p2,p3⟩:=Aww (n:=n) h1 h2 k3 AA;exact⟨l',qd,by rw[Fa,if_pos (P6 (.inr rfl) k1 k2)];exact p1,p2,p3⟩
def Bea(qb:Mn){s:Sp}(h:ShS s):RTs s:=by
 induction h with
 | @mk s h1 h2 h3 h4 h5 h6 h7 h8 h9 h10 h11 h12 h13 h14 ih1 ih2=>
  intro n ts r hm qs hn;obtain⟨op,line,nm,arg,iz,it,idx,ex,bz,bt,body,ez,et,els⟩:=s;simp only at h1 h2 h3 h4 h5 h6 h7 h8 h9 h10 h11 h12 h13 h14 ih1 ih2;simp only[Sp.toks,Yp]at hm;obtain⟨n,rfl⟩:∃ k,n=k+1:=⟨n - 1,by omega⟩;by_cases a:op=1
  .subst a;rw[if_pos rfl,if_neg AG]at hm;simp only[Bt,Br,Be]at hm;obtain⟨t,qa,rfl,k1,k2,k3⟩:=Ee hm;obtain⟨s',qd,p1,p2,p3,p4,p5,p6,p7,p8,p9⟩:=Bkg qb (s:=⟨1,line,nm,arg,iz,it,idx,ex,bz,bt,body,ez,et,els⟩) h6 h8 (h9 rfl) (line:=t.line) hm (n:=n) AA;refine⟨s',qd,by rw[F4,if_pos k1];exact p1,p2,S7 p3.symm p4.symm ?_ p7 p6 ?_ ?_⟩
   .rw[p5];exact h5 AG
   .rw[p8];simp only;rw[h11 rfl];rfl
   .rw[p9];simp only;rw[h12 AG];rfl
  have hr:2<=op/\op<=15:=by omega
  have qA:=h7 a;subst qA;have hw:=Bd9 hr;rw[if_neg a]at hm;by_cases b:op=2\/op=3
  .have hv:Em op=true:=by rcases b with rfl | rfl<;>rfl
   have hb:Bv op=true:=by rcases b with rfl | rfl<;>rfl
   have qq:nm=[]:=h2 (by rcases b with rfl | rfl<;>rfl);rw[if_pos b,if_pos hb]at hm;simp only[Bt,Br,Be]at hm;obtain⟨t,qd,rfl,k1,k2,k3⟩:=Ee hm;have hl:=H5 k3;rw[Ao]at hn;simp only[Ar,Ao]at hl;obtain⟨y,qc,p1,p2,p3⟩:=Afn qb (h9 hv) k3 (Aeg rfl rfl _) (n:=n) AA;have qg:=H5 p2;simp only[Ar,Ao]at qg;obtain⟨bd,qi,q1,q2,q3⟩:=Aak h13 ih1 p2 (n:=n) AA;have ql:=H5 q2;simp only[Ar]at ql;rw[F4,if_neg AA,if_pos k1,k2,hw,if_neg AA,if_pos b,p1];simp only;rw[q1];simp only;by_cases he:els=[]
   .subst he;simp only[Air,if_true,Be]at q2;rw[if_neg (by rw[Tf,q2,show [101,108,115,101]=Tz from rfl,qs];simp)];exact⟨_,_,rfl,q2,S7 rfl (by simp[An,qq]) (by simpa[An] using h5 AA) p3 rfl q3 rfl⟩
   .have h2:op=2:=by
     by_cases h:op=2
     .exact h
     .exact absurd (h12 h) he
    have qz:els.isEmpty=false:=by simpa using he
    rw[qz]at q2 ql qg hl;simp only[Hh,if_false,Bt,Br,Be,Ao,Ar]at q2 ql qg hl;obtain⟨t4,qm,rfl,k4,k5,k6⟩:=Ee q2;have qB:=H5 k6;simp only[Ar,Ao]at qB ql;obtain⟨ed,qx,r1,r2,r3⟩:=Aak h14 ih2 k6 (n:=n) AA;rw[if_pos ⟨h2,P6 (.inl rfl) k4 k5⟩,Om,r1];exact⟨_,_,rfl,r2,S7 rfl (by simp[An,qq]) (by simpa[An] using h5 AA) p3 rfl q3 r3⟩
  rw[if_neg b]at hm;have qy:els=[]:=h12 AA;subst qy;by_cases c:op=7\/op=8
  .have hb:Bv op=true:=by rcases c with rfl | rfl<;>rfl
   have qq:nm=[]:=h2 (by rcases c with rfl | rfl<;>rfl);have qj:X4 ex:=h10 (by rcases c with rfl | rfl<;>rfl);rw[if_pos c,if_pos hb]at hm;simp only[Bt,Br,Be,Air,if_true]at hm;obtain⟨t,qd,rfl,k1,k2,k3⟩:=Ee hm;rw[Ao]at hn;obtain⟨bd,qi,q1,q2,q3⟩:=Aak h13 ih1 k3 (n:=n) AA;rw[F4,if_neg AA,if_pos k1,k2,hw,if_neg AA,if_neg b,if_pos c,q1];exact⟨_,_,rfl,q2,S7 rfl (by simp[An,qq]) (by simpa[An] using h5 AA) (Ad7 qj) rfl q3 rfl⟩
  rw[if_neg c]at hm;have qG:op≠2/\op≠3/\op≠7/\op≠8:=by omega
  by_cases d:op=14
  .subst d;rw[if_pos rfl,if_neg AG]at hm;simp only[Bt,Br,Be]at hm;obtain⟨t,qd,rfl,k1,k2,k3⟩:=Ee hm;rw[Ao]at hn;obtain⟨qc,a1,a2⟩:=O4 k3;have hl:=H5 k3;have qg:=H5 a2;simp only[Ar,Ao]at hl qg;obtain⟨y,qi,p1,p2,p3⟩:=Afn qb (h9 rfl) a2 (Aeg rfl rfl _) (n:=n) AA;obtain⟨qm,e1,e2⟩:=M9 p2;rw[F4,if_neg AA,if_pos k1,k2,hw,if_neg AA,if_neg b,if_neg c,a1];simp only;rw[if_neg AA,if_pos trivial,p1];simp only;rw[e1];exact⟨_,_,rfl,e2,S7 rfl rfl (by simpa[An] using h5 AA) p3 rfl (by simp only;rw[h11 rfl];rfl) rfl⟩
  rw[if_neg d]at hm;by_cases e:op=15
  .subst e;rw[if_pos rfl,if_neg AG]at hm;simp only[Bt,Br,Be]at hm;obtain⟨t,qd,rfl,k1,k2,k3⟩:=Ee hm;obtain⟨qc,a1,a2⟩:=O4 k3;obtain⟨qi,b1,b2⟩:=O4 a2;obtain⟨qm,e1,e2⟩:=M9 b2;have qj:X4 ex:=h10 rfl;rw[F4,if_neg AA,if_pos k1,k2,hw,if_neg AA,if_neg b,if_neg c,a1];simp only;rw[if_neg AA,if_neg AA,if_pos trivial,b1];simp only;rw[e1];exact⟨_,_,rfl,e2,S7 rfl rfl rfl (Ad7 qj) rfl (by simp only;rw[h11 rfl];rfl) rfl⟩
  rw[if_neg e]at hm;have qj:X4 ex:=h10 (by unfold Em;simp;omega);by_cases f:op=4\/op=5\/op=6
  .have hb:Bv op=true:=by rcases f with rfl | rfl | rfl<;>rfl
   rw[if_pos hb]at hm;simp only[Bt,Br,Be,Air,if_true]at hm;obtain⟨t,qd,rfl,k1,k2,k3⟩:=Ee hm;rw[Ao]at hn;obtain⟨qc,a1,a2⟩:=O4 k3;have hl:=H5 k3;have qg:=H5 a2;simp only[Ar,Ao]at hl qg;obtain⟨bd,qi,q1,q2,q3⟩:=Aak h13 ih1 a2 (n:=n) AA;rw[F4,if_neg AA,if_pos k1,k2,hw,if_neg AA,if_neg b,if_neg c,a1];simp only;rw[if_pos f,q1];exact⟨_,_,rfl,q2,S7 rfl rfl (by simpa[An] using h5 AA) (Ad7 qj) rfl q3 rfl⟩
  .have hb:Bv op=false:=by unfold Bv;simp;omega
   rw[if_neg (by rw[hb];simp)]at hm;simp only[Bt,Br,Be]at hm;obtain⟨t,qd,rfl,k1,k2,k3⟩:=Ee hm;obtain⟨qc,a1,a2⟩:=O4 k3;obtain⟨qm,e1,e2⟩:=M9 a2;rw[F4,if_neg AA,if_pos k1,k2,hw,if_neg AA,if_neg b,if_neg c,a1];simp only;rw[if_neg f,if_neg d,if_neg e,e1];exact⟨_,_,rfl,e2,S7 rfl rfl (by simpa[An] using h5 AA) (Ad7 qj) rfl (by simp only;rw[h11 hb];rfl) rfl⟩
theorem Aa2(p:UInt8->Bool):∀ l:List UInt8,(l.dropWhile p).length<=l.length
 | []=>Ak _
 | c::r=>by
  rw[Wx]
  split
  .exact Nat.le_succ_of_le (Aa2 p r)
  omega
theorem Awx{c:UInt8}{r:List UInt8}(h:I0 (c::r)≠0):1<=I0 (c::r)/\I0 (c::r)<=(c::r).length:=by
 unfold I0 at h ⊢
 grind
def Z1{c:UInt8}{r:List UInt8}{k:Int}{w:List UInt8}(h:J6 (c::r)=some (k,w)):1<=w.length/\∃ q,c::r=w++q:=by
 unfold J6 at h;simp only at h
 split at h
 .split at h
  .cases h
  .cases h;exact⟨by simp[Ey],r.dropWhile H8,by simp[Ey]⟩
 .split at h
  .split at h
   .cases h
   .split at h
    .cases h;exact⟨by simp[Ep],r.dropWhile Dx,by simp[Ep]⟩
    grind
  .split at h
   .cases h
   grind[Awx,List.take_append_drop]
def Xk:∀ (n m:Nat) (ln:Int) (l:List UInt8),l.length<=n->l.length<=m->C2 n ln l=C2 m ln l
 | n,m,ln,[],_,_=>by cases n<;>cases m<;>rfl
 | 0,_,_,_::_,h,_=>by simp at h
 | _+1,0,_,_::_,_,h=>by simp at h
 | n+1,m+1,ln,c::r,h1,h2=>by
  rw[Ao]at h1 h2;unfold C2;by_cases e1:c=10
  .rw[if_pos e1,if_pos e1];exact Xk n m _ r AA AA
  rw[if_neg e1,if_neg e1];by_cases e2:c=32\/c=9\/c=13
  .rw[if_pos e2,if_pos e2];exact Xk n m _ r AA AA
  rw[if_neg e2,if_neg e2];by_cases e3:c=47/\r.head?=some 47
  .rw[if_pos e3,if_pos e3]
   have hd:((c::r).dropWhile (· != 10)).length<=r.length:=by
    rw[Wx,if_pos (by simp[e1])];exact Aa2 _ r
   exact Xk n m _ _ AA AA
  rw[if_neg e3,if_neg e3]
  cases hf:J6 (c::r) with
  | none=>rfl
  | some p=>
   obtain⟨k,w⟩:=p;have hw:=(Z1 hf).1;simp only;rw[Xk n m ln _ (by grind) (by grind)]
def Uw(o:Option (List Tk)):Option (List Kt):=o.map fun l=>l.map Tk.kt
def Z6:∀ (n:Nat) (ln qp:Int) (l:List UInt8),Uw (C2 n ln l)=Uw (C2 n qp l)
 | n,ln,qp,[]=>by cases n<;>rfl
 | 0,_,_,_::_=>rfl
 | n+1,ln,qp,c::r=>by
  unfold C2;by_cases e1:c=10
  .rw[if_pos e1,if_pos e1];exact Z6 n _ _ r
  rw[if_neg e1,if_neg e1];by_cases e2:c=32\/c=9\/c=13
  .rw[if_pos e2,if_pos e2];exact Z6 n _ _ r
  rw[if_neg e2,if_neg e2];by_cases e3:c=47/\r.head?=some 47
  .rw[if_pos e3,if_pos e3];exact Z6 n _ _ _
  rw[if_neg e3,if_neg e3]
  cases hf:J6 (c::r) with
  | none=>rfl
  | some p=>
   obtain⟨k,w⟩:=p;simp only;have:=Z6 n ln qp ((c::r).drop w.length);unfold Uw at this ⊢;simp only[Option.map_map]at this ⊢;revert this
   cases C2 n ln ((c::r).drop w.length)<;>cases C2 n qp ((c::r).drop w.length)<;>intro this
   .rfl
   .cases this
   .cases this
   .simp only[Jc,Adj]at this ⊢;simp only[Function.comp_apply,Az,this];rfl
def B8(l:List UInt8):Option (List Kt):=Uw (C2 l.length 1 l)
def At7{n:Nat}{ln:Int}{l:List UInt8}(h:l.length<=n):Uw (C2 n ln l)=B8 l:=by
 unfold B8;rw[Xk n l.length ln l h (Ak _)];exact Z6 _ _ _ _
def Bkh:B8 []=some []:=rfl
def Ua(r:List UInt8):B8 (10::r)=B8 r:=by
 unfold B8;rw[Ao,C2,if_pos rfl];exact At7 (Ak _)
def E5(r:List UInt8):B8 (32::r)=B8 r:=by
 unfold B8;rw[Ao,C2,if_neg AG,if_pos (.inl rfl)]
def Bki(n:Nat)(r:List UInt8):B8 (List.replicate n 32++r)=B8 r:=by
 induction n with
 | zero=>rfl
 | succ n ih=>rw[Ade,Bt,E5,ih]
def cons(ks:List Kt)(o:Option (List Kt)):Option (List Kt):=o.map fun l=>ks++l
def Ft(a b:List Kt)(o:Option (List Kt)):cons a (cons b o)=cons (a++b) o:=by cases o<;>simp[cons]
def Aal(o:Option (List Kt)):cons [] o=o:=by cases o<;>rfl
def X5{c:UInt8}{r w q:List UInt8}{k:Int}(he:c::r=w++q)(hf:J6 (c::r)=some (k,w))(h1:c≠10/\c≠32/\c≠9/\c≠13)(h2:¬ (c=47/\r.head?=some 47)):B8 (c::r)=cons [(k,w)] (B8 q):=by
 have h3:¬ (c=32\/c=9\/c=13):=fun h=>by
  rcases h with h | h | h
  .exact h1.2.1 h
  .exact h1.2.2.1 h
  .exact h1.2.2.2 h
 have e:Uw (C2 (c::r).length 1 (c::r))=cons [(k,w)] (Uw (C2 r.length 1 q)):=by
  rw[Ao,C2,if_neg h1.1,if_neg h3,if_neg h2,hf];simp only;rw[he,List.drop_left]
  cases C2 r.length 1 q<;>rfl
 unfold B8 at e ⊢;rw[e];congr 1;refine At7 ?_;have hw:=(Z1 hf).1;have:=congrArg List.length he;rw[Ar,Ao]at this;omega
def Pz(c:UInt8)(r:List UInt8):J6 (c::r)=if Gv c then(if 12<(Ey c r).length then none else some (if Gi (Ey c r) then 3 else 1,Ey c r))
  else if Dx c then(if Ry (r.dropWhile Dx) then none else if Qo (Ep c r) then some (2,Ep c r) else none)
  else if I0 (c::r)=0 then none else some (4,(c::r).take (I0 (c::r))):=rfl
def Lr(r:List UInt8):Prop:=∀ c∈r.head?,H8 c=false
def Mc{c:UInt8}(r:List UInt8)(h:H8 c=false):Lr (c::r):=fun d hd=>by cases hd;exact h
def Aje{p:UInt8->Bool}:∀ (cs r:List UInt8),(∀ c∈cs,p c=true)->(∀ c∈r.head?,p c=false)->(cs++r).takeWhile p=cs/\(cs++r).dropWhile p=r
 | [],[],_,_=>⟨rfl,rfl⟩
 | [],c::r,_,h=>by
  have:=h c rfl;simp[Wy,Wx,this]
 | c::cs,r,h1,h2=>by
  have:=Aje cs r (fun d hd=>h1 d (Ci _ hd)) h2;simp[Wy,Wx,h1 c B7,this]
def A56:((List.range 256).all fun n=>!K0 n||(decide (n≠10)&&(decide (n≠32)&&(decide (n≠9)&&(decide (n≠13)&&(decide (n≠47)&&(decide (n≠61)&&Lv n)))))))=true:=by decide +kernel
def A57:((List.range 256).all fun n=>!Mu n||(decide (n≠10)&&(decide (n≠32)&&(decide (n≠9)&&(decide (n≠13)&&(decide (n≠47)&&(decide (n≠61)&&(!K0 n&&Lv n))))))))=true:=by decide +kernel
def Nz{c:UInt8}{n:Nat}(hn:n<256)(h:c.toNat≠n):c≠UInt8.ofNat n:=by
 intro e
 simp_all
theorem Als{c:UInt8}(h:Gv c=true):(c≠10/\c≠32/\c≠9/\c≠13)/\c≠47/\c≠61/\H8 c=true:=by
 have:=Bw.1 A56 c.toNat (Ed.2 c.toNat_lt);unfold Gv at h;rw[h]at this;simp only[A0,U5,Ai,decide_eq_true_eq]at this;obtain⟨a1,a2,a3,a4,a5,a6,a7⟩:=this;exact⟨⟨Nz (n:=10) AG a1,Nz (n:=32) AG a2,Nz (n:=9) AG a3,Nz (n:=13) AG a4⟩,Nz (n:=47) AG a5,Nz (n:=61) AG a6,a7⟩
def Awy{c:UInt8}(h:Dx c=true):(c≠10/\c≠32/\c≠9/\c≠13)/\c≠47/\c≠61/\Gv c=false/\H8 c=true:=by
 have:=Bw.1 A57 c.toNat (Ed.2 c.toNat_lt);unfold Dx at h;rw[h]at this;simp only[A0,U5,Ai,decide_eq_true_eq,Q6]at this;obtain⟨a1,a2,a3,a4,a5,a6,a7,a8⟩:=this;exact⟨⟨Nz (n:=10) AG a1,Nz (n:=32) AG a2,Nz (n:=9) AG a3,Nz (n:=13) AG a4⟩,Nz (n:=47) AG a5,Nz (n:=61) AG a6,a7,a8⟩
def Awz{c:UInt8}{cs r:List UInt8}(h1:Gv c=true)(h2:∀ d∈cs,H8 d=true)(h3:(c::cs).length<=12)(hr:Lr r):B8 ((c::cs)++r)=cons [(if Gi (c::cs) then 3 else 1,c::cs)] (B8 r):=by
 obtain⟨a1,a2,-⟩:=Als h1;have ht:=(Aje (p:=H8) cs r h2 hr).1;refine X5 (q:=r) rfl ?_ a1 fun h=>a2 h.1
 show J6 (c::(cs++r))=_;have hn:¬ 12<(c::cs).length:=by omega
 rw[Pz,h1,if_pos rfl];simp only[Ey,ht];rw[if_neg hn]
def Akv{l:List UInt8}(h:Bm l=true):∃ c cs,l=c::cs/\Gv c=true/\(∀ d∈cs,H8 d=true)/\(c::cs).length<=12/\Gi l=false:=by
 unfold Bm at h;simp only[Ai,decide_eq_true_eq,Q6,Bw,Ed]at h;obtain⟨h1,h2,h3,h4⟩:=h
 cases l with
 | nil=>grind
 | cons c cs=>
  refine⟨c,cs,rfl,?_,fun d hd=>?_,h2,h3⟩
  .grind[I9,Gv]
  .obtain⟨i,hi,rfl⟩:=Adc.1 hd;have:=h4 (i+1) (by grind);unfold I9 at this;simp only[List.getD_cons_succ]at this;rw[D3,Ca hi]at this;simp only[Sv]at this;unfold H8 Lv
   grind
def Ih{nm r:List UInt8}(h:Bm nm=true)(hr:Lr r):B8 (nm++r)=cons [(1,nm)] (B8 r):=by
 obtain⟨c,cs,rfl,h1,h2,h3,h4⟩:=Akv h;rw[Awz h1 h2 h3 hr,h4];rfl
def Qr:Prop:=∀ n:Int,0<=n/\n<=9223372036854775807->(∃ c cs,B4 n=c::cs/\Dx c=true/\∀ d∈cs,Dx d=true)/\Qo (B4 n)=true
def A3d{r:List UInt8}(h:Lr r):Ry r=false:=by
 cases r with
 | nil=>rfl
 | cons c r=>
  have:=h c rfl;unfold H8 Lv at this;simp only[Aik]at this;unfold Ry Gv;simp only[Aik,beq_eq_false_iff_ne,ne_eq];refine⟨this.1,fun e=>?_⟩;subst e;have:=this.2.2;simp at this
def Agh(hd:Qr){n:Int}(hn:0<=n/\n<=9223372036854775807){r:List UInt8}(hr:Lr r):B8 (B4 n++r)=cons [(2,B4 n)] (B8 r):=by
 obtain⟨⟨c,cs,e,h1,h2⟩,h3⟩:=hd n hn;rw[e]at h3 ⊢;obtain⟨a1,a2,-,a4,-⟩:=Awy h1
 have ht:=Aje (p:=Dx) cs r h2 fun c hc=>by
  have:=hr c hc;unfold H8 Lv at this;simp only[Aik]at this;exact this.2.1
 refine X5 (q:=r) rfl ?_ a1 fun h=>a2 h.1
 show J6 (c::(cs++r))=_;rw[Pz,a4,if_neg AE,h1,if_pos rfl,ht.2,A3d hr,if_neg AE];simp only[Ep,ht.1];rw[h3,if_pos rfl]
def Yq:List UInt8:=[43,45,42,37,40,41,91,93,123,125,44,59]
def G5{c:UInt8}(h:c∈Yq)(r:List UInt8):B8 (c::r)=cons [(4,[c])] (B8 r):=by
 refine X5 (q:=r) rfl ?_ ?_ ?_
 .have hs:I0 (c::r)=1:=by
   unfold I0
   have h0:(twoS.elem ((c::r).take 2))=false:=by
    cases r with
    | nil=>
     simp only[Yq,Bp,La,or_false]at h
     rcases h with rfl | rfl | rfl | rfl | rfl | rfl | rfl | rfl | rfl | rfl | rfl | rfl<;>rfl
    | cons d r=>
     simp only[List.take_succ_cons,Zp,twoS];simp only[Yq,Bp,La,or_false]at h
     rcases h with rfl | rfl | rfl | rfl | rfl | rfl | rfl | rfl | rfl | rfl | rfl | rfl<;>simp
   rw[h0,Zr];simp only[Yq,Bp,La,or_false]at h
   rcases h with rfl | rfl | rfl | rfl | rfl | rfl | rfl | rfl | rfl | rfl | rfl | rfl<;>rfl
  have hl:Gv c=false/\Dx c=false:=by
   simp only[Yq,Bp,La,or_false]at h
   rcases h with rfl | rfl | rfl | rfl | rfl | rfl | rfl | rfl | rfl | rfl | rfl | rfl<;>exact⟨rfl,rfl⟩
  rw[Pz,hl.1,hl.2,hs];rfl
 .simp only[Yq,Bp,La,or_false]at h
  rcases h with rfl | rfl | rfl | rfl | rfl | rfl | rfl | rfl | rfl | rfl | rfl | rfl<;>decide
 .rintro⟨rfl,-⟩;revert h;decide
def Bp7{op:Int}(h:6<=op/\op<=18)(r:List UInt8):B8 (B0 op++32::r)=cons [(4,B0 op)] (B8 (32::r)):=by
 have hw:op=6\/op=7\/op=8\/op=9\/op=10\/op=11\/op=12\/op=13\/op=14\/op=15\/op=16\/op=17\/op=18:=by omega
 rcases hw with rfl | rfl | rfl | rfl | rfl | rfl | rfl | rfl | rfl | rfl | rfl | rfl | rfl<;>exact X5 (q:=32::r) rfl rfl AG AE
def Aeh(r:List UInt8):B8 (61::32::r)=cons [(4,[61])] (B8 (32::r)):=X5 (q:=32::r) rfl rfl AG AE
def Bkj{c:UInt8}{r:List UInt8}(h:c≠61):B8 (33::c::r)=cons [(4,[33])] (B8 (c::r)):=by
 refine X5 (q:=c::r) rfl ?_ AG AE
 have hs:I0 (33::c::r)=1:=by
  unfold I0
  have h0:(twoS.elem ((33::c::r).take 2))=false:=by
   simp only[List.take_succ_cons,Zp,twoS];simp[h]
  rw[h0,Zr];rfl
 rw[Pz,hs];rfl
def Tn(l:List UInt8):Prop:=∃ c cs,l=c::cs/\c≠61
def Akw{l:List UInt8}(h:Tn l)(r:List UInt8):Tn (l++r):=by
 obtain⟨c,cs,rfl,hc⟩:=h;exact⟨c,cs++r,rfl,hc⟩
def Bp8{op:Int}(h:op=4\/op=5){l:List UInt8}(hl:Tn l):B8 (B0 op++l)=cons [(4,B0 op)] (B8 l):=by
 obtain⟨c,cs,rfl,hc⟩:=hl;rcases h with rfl | rfl
 .exact G5 AG _
 .exact Bkj hc
def Tx(l:List UInt8)(ks:List Kt):Prop:=∀ r,Lr r->B8 (l++r)=cons ks (B8 r)
def At8{o:Int × List UInt8}{lvl:Int}(h:Tn o.2):Tn (Dg o lvl):=by
 unfold Dg
 split
 .exact⟨40,_,rfl,by decide⟩
 .exact h
def Amp{op:Int}{l:List UInt8}{ks:List Kt}(h:Tx l ks)(lvl:Int):Tx (Dg (op,l) lvl) (I6 (op,ks) lvl):=by
 intro r hr;unfold Dg I6;simp only
 split
 .simp only[Bt,Br,Be];rw[G5 AG,h _ (Mc _ AG),G5 AG];simp only[Ft,Bt,Be]
 .exact h r hr
def Bkk{op:Int}(ho:6<=op/\op<=18){l1 l2:List UInt8}{k1 k2:List Kt}(h1:Tx l1 k1)(h2:Tx l2 k2):Tx (l1++32::(B0 op++32::l2)) (k1++(4,B0 op)::k2):=by
 intro r hr;simp only[Br,Bt];rw[h1 _ (Mc _ AG),E5,Bp7 ho,E5,h2 r hr];simp only[Ft,Bt,Be]
def Bp9{op:Int}(ho:op=4\/op=5){l:List UInt8}{k:List Kt}(h:Tx l k)(hl:Tn l):Tx (B0 op++l) ((4,B0 op)::k):=by
 intro r hr;rw[Br,Bp8 ho (Akw hl r),h r hr];simp only[Ft,Bt,Be]
def Bkl{nm l:List UInt8}{k:List Kt}(hn:Bm nm=true)(h:Tx l k):Tx (nm++91::(l++[93])) ((1,nm)::(4,[91])::(k++[(4,[93])])):=by
 intro r hr;simp only[Br,Bt,Be];rw[Ih hn (Mc _ AG),G5 AG,h _ (Mc _ AG),G5 AG];simp only[Ft,Bt,Be]
def Aw0{op:Int}{z:Bool}{t:Nat}{a b:Xp}(h:6<=op/\op<=18):Xp.txt ⟨op,0,[],z,t,[a,b]⟩=Dg (a.op,a.txt) (Gg op)++32::(B0 op++32::Dg (b.op,b.txt) (Bf op+1)):=by
 simp only[Xp.txt,Xp.txts,Dt]
 grind
def Ayy{op:Int}{z:Bool}{t:Nat}{a:Xp}(h:op=4\/op=5):Xp.txt ⟨op,0,[],z,t,[a]⟩=B0 op++Dg (a.op,a.txt) 6/\Xp.toks ⟨op,0,[],z,t,[a]⟩=(4,B0 op)::I6 (a.op,a.toks) 6:=by
 simp only[Xp.txt,Xp.txts,Dt,Xp.toks,Xp.tokss,Qq]
 grind
def Aw1{nm:List UInt8}(h:Bm nm=true):Tn nm:=by
 obtain⟨c,cs,rfl,h1,-⟩:=Akv h;exact⟨c,cs,rfl,(Als h1).2.2.1⟩
def Agi(hd:Qr){x:Xp}(h:ShE x):Tx x.txt x.toks/\Tn x.txt:=by
 induction h with
 | @num n z t hn=>
  have e1:Xp.txt ⟨1,n,[],z,t,[]⟩=B4 n:=by simp[Xp.txt,Dt]
  have e2:Xp.toks ⟨1,n,[],z,t,[]⟩=[(2,B4 n)]:=by simp[Xp.toks,Qq]
  rw[e1,e2];obtain⟨⟨c,cs,e,h1,h2⟩,-⟩:=hd n hn;exact⟨fun r hr=>Agh hd hn hr,c,cs,e,(Awy h1).2.2.1⟩
 | @name nm z t hn=>
  have e1:Xp.txt ⟨2,0,nm,z,t,[]⟩=nm:=by simp[Xp.txt,Dt]
  have e2:Xp.toks ⟨2,0,nm,z,t,[]⟩=[(1,nm)]:=by simp[Xp.toks,Qq]
  rw[e1,e2];exact⟨fun r hr=>Ih hn hr,Aw1 hn⟩
 | @idx nm z t a hn ha ih=>
  have e1:Xp.txt ⟨3,0,nm,z,t,[a]⟩=nm++91::(a.txt++[93]):=by simp[Xp.txt,Xp.txts,Dt]
  have e2:Xp.toks ⟨3,0,nm,z,t,[a]⟩=(1,nm)::(4,[91])::(a.toks++[(4,[93])]):=by simp[Xp.toks,Xp.tokss,Qq]
  rw[e1,e2];exact⟨Bkl hn ih.1,Akw (Aw1 hn) _⟩
 | @un op z t a qe ha ih=>
  obtain⟨e1,e2⟩:=Ayy (z:=z) (t:=t) (a:=a) qe;rw[e1,e2];have hh:=At8 (o:=(a.op,a.txt)) (lvl:=6) ih.2;refine⟨Bp9 qe (Amp ih.1 6) hh,?_⟩;rcases qe with rfl | rfl
  .exact⟨45,_,rfl,by decide⟩
  .exact⟨33,_,rfl,by decide⟩
 | @bin op z t a b qe ha hb iha ihb=>
  rw[Aw0 qe,Aku qe];exact⟨Bkk qe (Amp iha.1 _) (Amp ihb.1 _),Akw (At8 iha.2) _⟩
