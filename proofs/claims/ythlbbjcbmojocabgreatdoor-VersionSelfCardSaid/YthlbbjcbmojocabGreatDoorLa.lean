/- Plain: tokens, what scanning a text gives, what parsing tokens gives. -/
import Derived.Test.YthlbbjcbmojocabGreatDoorPa
import Derived.Lib.ParseIntB
set_option linter.all false
namespace Go.Proofs.YthlbbjcbmojocabGreatDoor.KM
open Go
structure Tk where
 kind:Int
 text:List UInt8
 line:Int
def Tk.row(t:Tk):List V:=[iV t.kind,.str t.text,iV t.line]
def Tk.zero:Tk:=⟨0,[],0⟩
def F1(c:UInt8):Bool:=J7 c.toNat
def Dw(c:UInt8):Bool:=M9 c.toNat
def Gw(c:UInt8):Bool:=Jj c.toNat
def twoS:List (List UInt8):=[[124,124],[38,38],[61,61],[33,61],[60,61],[62,61]]
def oneS:List UInt8:=[60,62,43,45,42,47,37,33,61,40,41,91,93,123,125,44,59]
def greatS:List UInt8:=[57,50,50,51,51,55,50,48,51,54,56,53,52,55,55,53,56,48,55]
def G9(l:List UInt8):Nat:=
 if decide (2<=l.length)&&twoS.elem (l.take 2) then 2 else
 match l with
 | c::_=>if oneS.elem c then 1 else 0
 | []=>0
def Nz(w:List UInt8):Bool:=
 let d:=w.dropWhile (·==48)
 !(decide (19<d.length)||(decide (d.length=19)&&Op.bytesLess greatS d))
def El(c:UInt8)(r:List UInt8):List UInt8:=c::r.takeWhile Gw
def Ee(c:UInt8)(r:List UInt8):List UInt8:=c::r.takeWhile Dw
def O7:List UInt8->Bool
 | d::_=>F1 d||d==95
 | []=>false
def Is:List UInt8->Option (Int × List UInt8)
 | []=>none
 | c::r=>
  if F1 c then(if 12<(El c r).length then none else some (if Gc (El c r) then 3 else 1,El c r))
  else if Dw c then(if O7 (r.dropWhile Dw) then none else if Nz (Ee c r) then some (2,Ee c r) else none)
  else if G9 (c::r)=0 then none else some (4,(c::r).take (G9 (c::r)))
def C0:Nat->Int->List UInt8->Option (List Tk)
 | _,_,[]=>some []
 | 0,_,_::_=>none
 | n+1,ln,c::r=>
  if c=10 then C0 n (ln+1) r
  else if c=32\/c=9\/c=13 then C0 n ln r
  else if c=47/\r.head?=some 47 then C0 n ln ((c::r).dropWhile (· != 10))
  else match Is (c::r) with
  | none=>none
  | some (k,w)=>(C0 n ln ((c::r).drop w.length)).map fun l=>⟨k,w,ln⟩::l
/-! expressions -/
def Ao(s:List UInt8):List Tk->Bool
 | t::_=>(t.kind==3||t.kind==4)&&t.text==s
 | []=>false
def opTab:List (List UInt8 × Int × Int):=[([124,124],18,1),([38,38],17,2),([61,61],11,3),([33,61],12,3),([60],13,3),([60,61],14,3),([62],15,3),([62,61],16,3),([43],6,4),([45],7,4),([42],8,5),([47],9,5),([37],10,5)]
def Fx(s:List UInt8):Int × Int:=(opTab.lookup s).getD (0,0)
def Gn(lvl:Nat):List Tk->Int
 | t::_=>if t.kind=4 then(if(Fx t.text).2=(lvl:Int) then(Fx t.text).1 else 0) else 0
 | []=>0
def Id(w:List UInt8):Int:=
 match Lib.parseIntB 64 w with
 | .ok v=>v
 | _=>0
def Ie(op:Int)(x y:Xp):Xp:=⟨op,0,[],true,1,[x,y]⟩
def Mc(op:Int)(x:Xp):Xp:=⟨op,0,[],true,1,[x]⟩
mutual
def pe:Nat->Nat->List Tk->Option (Xp × List Tk)
 | 0,_,_=>none
 | n+1,lvl,ts=>if 5<lvl then pu n ts else
  match pe n (lvl+1) ts with
  | none=>none
  | some (x,r)=>lp n lvl x r
def lp:Nat->Nat->Xp->List Tk->Option (Xp × List Tk)
 | 0,_,_,_=>none
 | n+1,lvl,x,ts=>if Gn lvl ts=0 then some (x,ts) else
  match pe n (lvl+1) ts.tail with
  | none=>none
  | some (y,r)=>if lvl=3 then some (Ie (Gn lvl ts) x y,r) else lp n lvl (Ie (Gn lvl ts) x y) r
def pu:Nat->List Tk->Option (Xp × List Tk)
 | 0,_=>none
 | n+1,ts=>if Ao [45] ts then(match pu n ts.tail with
   | none=>none
   | some (x,r)=>some (Mc 4 x,r))
  else if Ao [33] ts then(match pu n ts.tail with
   | none=>none
   | some (x,r)=>some (Mc 5 x,r))
  else pp n ts
def pp:Nat->List Tk->Option (Xp × List Tk)
 | 0,_=>none
 | _+1,[]=>none
 | n+1,t::ts=>if t.kind=2 then some (⟨1,Id t.text,[],true,0,[]⟩,ts)
  else if t.kind=1 then
   (if Ao [91] ts then(match pe n 1 ts.tail with
    | none=>none
    | some (x,r)=>if Ao [93] r then some (⟨3,0,t.text,true,1,[x]⟩,r.tail) else none)
   else some (⟨2,0,t.text,true,0,[]⟩,ts))
  else if Ao [40] (t::ts) then(match pe n 1 ts with
   | none=>none
   | some (x,r)=>if Ao [41] r then some (x,r.tail) else none)
  else none
end
/-! statements -/
def wordTab:List (List UInt8 × Int):=[([105,102],2),([119,104,105,108,101],3),([108,111,99,107],4),([114,101,97,100],5),([119,114,105,116,101],6),([116,114,97,110,115,97,99,116,105,111,110],7),([97,116,111,109,105,99],8),([119,97,105,116],9),([110,111,116,105,102,121],10),([110,111,116,105,102,121,97,108,108],11),([115,112,97,119,110],12),([106,111,105,110],13),([115,101,116],14),([103,101,116],15)]
def D0(s:List UInt8):Int:=(wordTab.lookup s).getD 0
def C4:List Tk->Option (List UInt8 × List Tk)
 | t::ts=>if t.kind=1 then some (t.text,ts) else none
 | []=>none
def Gb:List Tk->Option (Int × List Tk)
 | t::ts=>if t.kind=2 then some (Id t.text,ts) else none
 | []=>none
def Dn(s:List UInt8)(ts:List Tk):Option (List Tk):=if Ao s ts then some ts.tail else none
def Al(op line:Int):Sp:=⟨op,line,[],[],true,0,[],Xp.zero,true,0,[],true,0,[]⟩
def Yv(n:Nat)(ts:List Tk):Option (List Xp × List Tk):=
 if Ao [91] ts then
  match pe n 1 ts.tail with
  | none=>none
  | some (x,r)=>(Dn [93] r).map fun r=>([x],r)
 else some ([],ts)
def Ph(n:Nat)(line:Int)(ts:List Tk):Option (Sp × List Tk):=
 match C4 ts with
 | none=>none
 | some (nm,ts)=>
  match Yv n ts with
  | none=>none
  | some (ix,ts)=>
   match Dn [61] ts with
   | none=>none
   | some ts=>
    match pe n 1 ts with
    | none=>none
    | some (x,ts)=>(Dn [59] ts).map fun ts=>({ Al 1 line with nm:=nm,it:=ix.length,idx:=ix,ex:=x },ts)
mutual
def Fh:Nat->List Tk->Option (Sp × List Tk)
 | 0,_=>none
 | _+1,[]=>none
 | n+1,t::ts=>
  if t.kind=1 then Ph n t.line (t::ts)
  else if t.kind=3 then
   (if D0 t.text=0 then none
   else if D0 t.text=2\/D0 t.text=3 then
    (match pe n 1 ts with
    | none=>none
    | some (x,ts)=>
     match Eu n ts with
     | none=>none
     | some (b,ts)=>
      if D0 t.text=2/\Ao [101,108,115,101] ts=true then
       (match Eu n ts.tail with
       | none=>none
       | some (e,ts)=>some ({ Al (D0 t.text) t.line with ex:=x,body:=b,els:=e },ts))
      else some ({ Al (D0 t.text) t.line with ex:=x,body:=b },ts))
   else if D0 t.text=7\/D0 t.text=8 then
    (match Eu n ts with
    | none=>none
    | some (b,ts)=>some ({ Al (D0 t.text) t.line with body:=b },ts))
   else
    (match C4 ts with
    | none=>none
    | some (nm,ts)=>
     if D0 t.text=4\/D0 t.text=5\/D0 t.text=6 then
      (match Eu n ts with
      | none=>none
      | some (b,ts)=>some ({ Al (D0 t.text) t.line with nm:=nm,body:=b },ts))
     else if D0 t.text=14 then
      (match pe n 1 ts with
      | none=>none
      | some (x,ts)=>(Dn [59] ts).map fun ts=>({ Al (D0 t.text) t.line with nm:=nm,ex:=x },ts))
     else if D0 t.text=15 then
      (match C4 ts with
      | none=>none
      | some (ar,ts)=>(Dn [59] ts).map fun ts=>({ Al (D0 t.text) t.line with nm:=nm,arg:=ar },ts))
     else(Dn [59] ts).map fun ts=>({ Al (D0 t.text) t.line with nm:=nm },ts)))
  else none
def Eu:Nat->List Tk->Option (List Sp × List Tk)
 | 0,_=>none
 | n+1,ts=>if Ao [123] ts then Hv n ts.tail else none
def Hv:Nat->List Tk->Option (List Sp × List Tk)
 | 0,_=>none
 | n+1,ts=>if Ao [125] ts then some ([],ts.tail) else
  match Fh n ts with
  | none=>none
  | some (s,r)=>
   match Hv n r with
   | none=>none
   | some (l,r)=>some (s::l,r)
end
/-! declarations, threads, programs -/
def declTab:List (List UInt8 × Int):=[([118,97,114],1),([118,111,108,97,116,105,108,101],2),([109,117,116,101,120],3),([114,119,108,111,99,107],4),([99,111,110,100],5),([102,117,116,117,114,101],6)]
def F7(s:List UInt8):Int:=(declTab.lookup s).getD 0
def Qt(ts:List Tk):Option (Int × List Tk):=
 if Ao [91] ts then
  match Gb ts.tail with
  | none=>none
  | some (n,r)=>if n=0 then none else(Dn [93] r).map fun r=>(n,r)
 else some (0,ts)
def N0(ts:List Tk):Option (Int × List Tk):=
 if Ao [61] ts then
  if Ao [45] ts.tail then(Gb ts.tail.tail).map fun p=>(-p.1,p.2) else Gb ts.tail
 else some (0,ts)
def O8:List Tk->Option (Dp × List Tk)
 | []=>none
 | t::ts=>
  match C4 ts with
  | none=>none
  | some (nm,ts)=>
   if F7 t.text=1 then
    (match Qt ts with
    | none=>none
    | some (sz,ts)=>
       match N0 ts with
       | none=>none
       | some (i,ts)=>(Dn [59] ts).map fun ts=>(⟨1,t.line,nm,sz,i,[]⟩,ts))
   else if F7 t.text=2 then
    (match N0 ts with
    | none=>none
    | some (i,ts)=>(Dn [59] ts).map fun ts=>(⟨2,t.line,nm,0,i,[]⟩,ts))
   else if F7 t.text=5 then
    (match C4 ts with
    | none=>none
    | some (on,ts)=>(Dn [59] ts).map fun ts=>(⟨5,t.line,nm,0,0,on⟩,ts))
   else(Dn [59] ts).map fun ts=>(⟨F7 t.text,t.line,nm,0,0,[]⟩,ts)
def Lx:List Tk->Bool
 | t::_=>t.kind==3&&F7 t.text != 0
 | []=>false
def Iu:Nat->List Tk->Option (List Dp × List Tk)
 | 0,_=>none
 | n+1,ts=>if Lx ts then
   (match O8 ts with
   | none=>none
   | some (d,r)=>
    match Iu n r with
    | none=>none
    | some (l,r)=>some (d::l,r))
  else some ([],ts)
def Iz:Nat->List Tk->Option (List (List UInt8) × List Tk)
 | 0,_=>none
 | n+1,ts=>
  match C4 ts with
  | none=>none
  | some (nm,ts)=>
   if Ao [44] ts then
    (match Iz n ts.tail with
    | none=>none
    | some (l,r)=>some (nm::l,r))
   else(Dn [41] ts).map fun ts=>([nm],ts)
def Yk(n:Nat)(ts:List Tk):Option (List (List UInt8) × List Tk):=if Ao [41] ts then some ([],ts.tail) else Iz n ts
def Pi(n:Nat):List Tk->Option (Tp × List Tk)
 | []=>none
 | t::ts=>
  match C4 ts with
  | none=>none
  | some (nm,ts)=>
   match Dn [40] ts with
   | none=>none
   | some ts=>
    match Yk n ts with
    | none=>none
    | some (l,ts)=>
       match Eu n ts with
       | none=>none
       | some (b,ts)=>some (⟨nm,t.line,true,0,l,true,0,b⟩,ts)
def Na:List UInt8:=[116,104,114,101,97,100]
def Ix(m:Nat):Nat->List Tk->Option (List Tp × List Tk)
 | 0,_=>none
 | n+1,ts=>if Ao Na ts then
   (match Pi m ts with
   | none=>none
   | some (t,r)=>
    match Ix m n r with
    | none=>none
    | some (l,r)=>some (t::l,r))
  else some ([],ts)
def J1(k:Nat):Nat:=10*k+20
def Sl(ts:List Tk):Option (Gp × List Tk):=
 match Iu (ts.length+1) ts with
 | none=>none
 | some (ds,r)=>
  match Ix (J1 ts.length) (ts.length+1) r with
  | none=>none
  | some (l,r)=>if l.isEmpty then none else some (⟨true,0,ds,true,0,l⟩,r)
def Jd(s:List UInt8):Option Gp:=
 if 4096<s.length then none else
 match C0 s.length 1 s with
 | none=>none
 | some ts=>
  match Sl ts with
  | some (p,[])=>some p
  | _=>none
/-! the rows' flags say nothing -/
mutual
def Gt:Xp->Xp->Bool
 | ⟨op,n,nm,_,_,l⟩,⟨op',n',nm',_,_,l'⟩=>op==op'&&(n==n'&&(nm==nm'&&H6 l l'))
def H6:List Xp->List Xp->Bool
 | [],[]=>true
 | x::l,y::l'=>Gt x y&&H6 l l'
 | [],_::_=>false
 | _::_,[]=>false
end
abbrev Kt:=Int × List UInt8
def Tk.kt(t:Tk):Kt:=(t.kind,t.text)
def Ht(o:Int × List Kt)(qo:Int):List Kt:=if A1 o.1<qo then(4,[40])::(o.2++[(4,[41])]) else o.2
def N1(op n:Int)(nm:List UInt8)(ts:List (Int × List Kt)):List Kt:=
 if op=1 then [(2,Bw n)] else if op=2 then [(1,nm)] else
 match ts with
 | [a]=>if op=3 then(1,nm)::(4,[91])::(a.2++[(4,[93])]) else(4,By op)::Ht a 6
 | [a,b]=>Ht a (Fu op)++(4,By op)::Ht b (A1 op+1)
 | _=>[]
mutual
def Xp.toks:Xp->List Kt
 | ⟨op,n,nm,_,_,l⟩=>N1 op n nm (Xp.tokss l)
def Xp.tokss:List Xp->List (Int × List Kt)
 | []=>[]
 | x::l=>(x.op,x.toks)::Xp.tokss l
end
inductive ShE:Xp->Prop
 | num {n:Int} {z:Bool} {t:Nat}:0<=n/\n<=9223372036854775807->ShE ⟨1,n,[],z,t,[]⟩
 | name {nm:List UInt8} {z:Bool} {t:Nat}:Bv nm=true->ShE ⟨2,0,nm,z,t,[]⟩
 | idx {nm:List UInt8} {z:Bool} {t:Nat} {a:Xp}:Bv nm=true->ShE a->ShE ⟨3,0,nm,z,t,[a]⟩
 | un {op:Int} {z:Bool} {t:Nat} {a:Xp}:op=4\/op=5->ShE a->ShE ⟨op,0,[],z,t,[a]⟩
 | bin {op:Int} {z:Bool} {t:Nat} {a b:Xp}:6<=op/\op<=18->ShE a->ShE b->ShE ⟨op,0,[],z,t,[a,b]⟩
def Ax7:((List.range 18).all fun i=>decide ((By ((i:Int)+1)).length<=2/\1<=A1 ((i:Int)+1)/\A1 ((i:Int)+1)<=7))=true:=by decide
def A17{op:Int}(h:1<=op/\op<=18):∃ i:Nat,i<18/\op=(i:Int)+1:=⟨(op - 1).toNat,by omega,by omega⟩
def Abf{op:Int}(h:1<=op/\op<=18):(By op).length<=2/\1<=A1 op/\A1 op<=7:=by
 obtain⟨i,hi,rfl⟩:=A17 h;exact of_decide_eq_true (Bh.1 Ax7 i (En.2 hi))
def Aqp{x:Xp}(h:ShE x):1<=x.op/\x.op<=18:=by
 cases h with
 | num _=>exact⟨by simp,by simp⟩
 | name=>exact⟨by simp,by simp⟩
 | idx _ _=>exact⟨by simp,by simp⟩
 | un h _=>simp only;omega
 | bin h _ _=>simp only;omega
def Aqq{x:Xp}(h:ShE x):Cn x:=by
 induction h with
 | num h=>exact .num (by omega)
 | name _=>exact .name
 | idx _ _ ih=>exact .idx ih
 | un h _ ih=>exact .un h ih
 | bin h _ _ ih1 ih2=>exact .bin h ih1 ih2
def Jl(s:List UInt8):List Kt->Bool
 | t::_=>(t.1==3||t.1==4)&&t.2==s
 | []=>false
def S3(lvl:Nat):List Kt->Int
 | t::_=>if t.1=4 then(if(Fx t.2).2=(lvl:Int) then(Fx t.2).1 else 0) else 0
 | []=>0
def P9(s:List UInt8)(ts:List Tk):Ao s ts=Jl s (ts.map Tk.kt):=by cases ts<;>rfl
def Amu(lvl:Nat)(ts:List Tk):Gn lvl ts=S3 lvl (ts.map Tk.kt):=by cases ts<;>rfl
def Ax8:((List.range 13).all fun i=>Fx (By ((i:Int)+6))==((i:Int)+6,A1 ((i:Int)+6))&&(1<=A1 ((i:Int)+6))&&(A1 ((i:Int)+6)<=5)&&(By ((i:Int)+6) != [91]))=true:=by decide
def X5{op:Int}(h:6<=op/\op<=18):Fx (By op)=(op,A1 op)/\1<=A1 op/\A1 op<=5/\By op≠[91]:=by
 obtain⟨i,hi,rfl⟩:∃ i:Nat,i<13/\op=(i:Int)+6:=⟨(op - 6).toNat,by omega,by omega⟩;have:=Bh.1 Ax8 i (En.2 hi);simp only[Af,beq_iff_eq,decide_eq_true_eq,bne_iff_ne]at this;exact⟨this.1.1.1,this.1.1.2,this.1.2,this.2⟩
def Qu(lvl:Nat)(r:List Kt):Prop:=(∀ l:Nat,lvl<=l->S3 l r=0)/\Jl [91] r=false
def Ao2{lvl:Nat}{r:List Kt}(h:Qu lvl r):Qu (lvl+1) r:=⟨fun l hl=>h.1 l (by omega),h.2⟩
def Hw(x:Xp)(lvl:Nat):Prop:=∀ (n:Nat) (ts:List Tk) (r:List Kt),ts.map Tk.kt=Ht (x.op,x.toks) lvl++r->Qu lvl r->8*ts.length+7<=n+lvl->∃ y qa,pe n lvl ts=some (y,qa)/\qa.map Tk.kt=r/\Gt x y=true
def S4(x:Xp)(lvl:Nat):Prop:=∀ (n:Nat) (ts:List Tk) (r:List Kt),ts.map Tk.kt=Ht (x.op,x.toks) lvl++r->Qu (lvl+1) r->8*ts.length+7<=n+lvl->∃ y qa m,pe n lvl ts=lp m lvl y qa/\qa.map Tk.kt=r/\Gt x y=true/\8*qa.length<=m+lvl+1/\1<=m
def Amv{x:Xp}{lvl:Nat}(h:S4 x lvl):Hw x lvl:=by
 intro n ts r hm hs hn;obtain⟨y,qa,m,h1,h2,h3,h4,h5⟩:=h n ts r hm (Ao2 hs) hn;refine⟨y,qa,?_,h2,h3⟩;obtain⟨m,rfl⟩:∃ k,m=k+1:=⟨m - 1,by omega⟩;rw[h1,lp,if_pos (by rw[Amu,h2];exact hs.1 lvl (Ai _))]
def Af3{ts:List Tk}{a b:List Kt}(h:ts.map Tk.kt=a++b):ts.length=a.length+b.length:=by
 have:=congrArg List.length h;simpa using this
def Afc{x:Xp}{lvl:Nat}(hl:lvl<=5)(qF:A1 x.op≠(lvl:Int))(h:Hw x (lvl+1)):S4 x lvl:=by
 intro n ts r hm hs hn
 have e:Ht (x.op,x.toks) (lvl:Int)=Ht (x.op,x.toks) ((lvl+1:Nat):Int):=by
  unfold Ht;simp only;by_cases h1:A1 x.op<(lvl:Int)
  .rw[if_pos h1,if_pos (by omega)]
  .rw[if_neg h1,if_neg (by omega)]
 rw[e]at hm;obtain⟨n,rfl⟩:∃ k,n=k+1:=⟨n - 1,by omega⟩;obtain⟨y,qa,h1,h2,h3⟩:=h n ts r hm hs (by omega);refine⟨y,qa,n,?_,h2,h3,?_,by omega⟩
 .rw[pe,if_neg (by omega),h1]
 .have:=Af3 hm;have qr:=congrArg List.length h2;simp only[Ba]at qr;omega
def Ao3{op:Int}(h:6<=op/\op<=18){lvl:Nat}(hl:A1 op<lvl)(r:List Kt):Qu lvl ((4,By op)::r):=by
 obtain⟨h1,-,-,h2⟩:=X5 h;refine⟨fun l qE=>?_,?_⟩
 .simp only[S3,if_true,h1];rw[if_neg (by omega)]
 .unfold Jl;simp[h2]
def Ov{x:Xp}{lvl:Int}(h:lvl<=A1 x.op):Ht (x.op,x.toks) lvl=x.toks:=by
 unfold Ht;rw[if_neg (by simp only;omega)]
def Afd{op:Int}{z:Bool}{t:Nat}{a b:Xp}(h:6<=op/\op<=18):Xp.toks ⟨op,0,[],z,t,[a,b]⟩=Ht (a.op,a.toks) (Fu op)++(4,By op)::Ht (b.op,b.toks) (A1 op+1):=by
 simp only[Xp.toks,Xp.tokss,N1];rw[if_neg (by omega),if_neg (by omega)]
def Amw{op:Int}{z:Bool}{t:Nat}{a b y1 y2:Xp}(h1:Gt a y1=true)(h2:Gt b y2=true):Gt ⟨op,0,[],z,t,[a,b]⟩ (Ie op y1 y2)=true:=by
 simp[Gt,H6,Ie,h1,h2]
def Ao4{op:Int}(h:6<=op/\op<=18){ts:List Tk}{r:List Kt}(hm:ts.map Tk.kt=(4,By op)::r){lvl:Nat}(hl:A1 op=lvl):∃ t qa,ts=t::qa/\qa.map Tk.kt=r/\Gn lvl ts=op/\op≠0:=by
 cases ts with
 | nil=>cases hm
 | cons t qa=>
  rw[Aw]at hm;injection hm with h1 h2;refine⟨t,qa,rfl,h2,?_,by omega⟩;obtain⟨e,-⟩:=X5 h;rw[Amu,Aw,h1];simp only[S3,if_true,e,hl]
def A6h{op:Int}{z:Bool}{t:Nat}{a b:Xp}(h:6<=op/\op<=18){lvl:Nat}(hl:A1 op=lvl)(h3:lvl≠3)(ha:S4 a lvl)(hb:Hw b (lvl+1)):S4 ⟨op,0,[],z,t,[a,b]⟩ lvl:=by
 intro n ts r hm hs hn;obtain⟨-,l1,l2,-⟩:=X5 h;rw[Ov (by simp only;omega),Afd h,Br,Bq]at hm
 have qu:Fu op=(lvl:Int):=by
  unfold Fu;rw[if_neg (by omega),hl]
 rw[qu]at hm;obtain⟨y1,qd,m,p1,p2,p3,p4,p5⟩:=ha n ts _ hm (Ao3 h (by omega) _) hn;obtain⟨t1,qh,rfl,q1,q2,q3⟩:=Ao4 h p2 hl;obtain⟨m,rfl⟩:∃ k,m=k+1:=⟨m - 1,by omega⟩;rw[Ah]at p4;rw[hl,show((lvl:Int)+1)=((lvl+1:Nat):Int) by omega]at q1;obtain⟨y2,qc,s1,s2,s3⟩:=hb m qh r q1 hs (by omega);refine⟨Ie op y1 y2,qc,m,?_,s2,Amw p3 s3,?_,by omega⟩
 .rw[p1,lp,if_neg (by rw[q2];exact q3),Mk,s1];simp only;rw[if_neg h3,q2]
 .have:=Af3 q1;have qr:=congrArg List.length s2;simp only[Ba]at qr;omega
def A6i{op:Int}{z:Bool}{t:Nat}{a b:Xp}(h:6<=op/\op<=18)(hl:A1 op=((3:Nat):Int))(ha:Hw a 4)(hb:Hw b 4):Hw ⟨op,0,[],z,t,[a,b]⟩ 3:=by
 intro n ts r hm hs hn;obtain⟨-,l1,l2,-⟩:=X5 h;rw[Ov (by simp only;omega),Afd h,Br,Bq]at hm
 have qu:Fu op=((4:Nat):Int):=by
  unfold Fu;rw[if_pos (by omega)];rfl
 rw[qu]at hm;obtain⟨n,rfl⟩:∃ k,n=k+1:=⟨n - 1,by omega⟩;obtain⟨y1,qd,p1,p2,p3⟩:=ha n ts _ hm (Ao3 h (by omega) _) (by omega);have qv:=Af3 hm;obtain⟨t1,qh,rfl,q1,q2,q3⟩:=Ao4 h p2 hl;have qn:=congrArg List.length p2;simp only[Ba,Ah]at qv qn;obtain⟨n,rfl⟩:∃ k,n=k+1:=⟨n - 1,by omega⟩;rw[hl,show(((3:Nat):Int)+1)=((4:Nat):Int) by omega]at q1;obtain⟨y2,qc,s1,s2,s3⟩:=hb n qh r q1 (Ao2 hs) (by omega);refine⟨Ie op y1 y2,qc,?_,s2,Amw p3 s3⟩;rw[pe,if_neg (by omega),p1];simp only;rw[lp,if_neg (by rw[q2];exact q3),Mk,s1];simp only[if_true];rw[q2]
def X6{x:Xp}(hx:∀ (n:Nat) (ts:List Tk) (r:List Kt),ts.map Tk.kt=Ht (x.op,x.toks) 6++r->Qu 6 r->8*ts.length<=n->∃ y qa,pu n ts=some (y,qa)/\qa.map Tk.kt=r/\Gt x y=true):Hw x 6:=by
 intro n ts r hm hs hn;obtain⟨n,rfl⟩:∃ k,n=k+1:=⟨n - 1,by omega⟩;obtain⟨y,qa,h1,h2⟩:=hx n ts r hm hs (by omega);exact⟨y,qa,by rw[pe,if_pos (by omega),h1],h2⟩
def D4{ts:List Tk}{k:Int}{w:List UInt8}{r:List Kt}(h:ts.map Tk.kt=(k,w)::r):∃ t qa,ts=t::qa/\t.kind=k/\t.text=w/\qa.map Tk.kt=r:=by
 cases ts with
 | nil=>cases h
 | cons t qa=>
  rw[Aw]at h;injection h with h1 h2;unfold Tk.kt at h1;injection h1 with h3 h4;exact⟨t,qa,rfl,h3,h4,h2⟩
def Acu{n:Nat}{ts:List Tk}(h1:Ao [45] ts=false)(h2:Ao [33] ts=false):pu (n+1) ts=pp n ts:=by
 rw[pu,h1,h2];rfl
def Sm{s:List UInt8}{t:Tk}{ts:List Tk}(h:t.kind=1\/t.kind=2):Ao s (t::ts)=false:=by
 simp only[Ao]
 rcases h with h | h<;>rw[h]<;>rfl
def M3{s w:List UInt8}{t:Tk}{ts:List Tk}(h:t.kind=4)(hw:t.text=w):Ao s (t::ts)=(w==s):=by
 simp only[Ao];rw[h,hw];rfl
def J2:Prop:=∀ n:Int,0<=n/\n<=9223372036854775807->Id (Bw n)=n
def Abg{x:Xp}{k:Nat}(hk:k<=6)(h:Hw x k):∀ (d:Nat),d<=k->(∀ l:Nat,k - d<=l->l<k->A1 x.op≠(l:Int))->Hw x (k - d)
 | 0,_,_=>h
 | d+1,hd,hl=>by
  have ih:=Abg hk h d (by omega) fun l h1 h2=>hl l (by omega) h2
  have e:k - d=k - (d+1)+1:=by omega
  rw[e]at ih;exact Amv (Afc (by omega) (hl _ (Ai _) (by omega)) ih)
def A6j{x:Xp}(hx:A1 x.op<6)(h:Hw x 1)(h1:1<=A1 x.op):Hw x 6:=by
 refine X6 fun n ts r hm hs hn=>?_
 unfold Ht at hm;rw[if_pos (by simpa using hx)]at hm;simp only[Bq,Br,Bf]at hm;obtain⟨t,qa,rfl,k1,k2,k3⟩:=D4 hm;rw[Ah]at hn;obtain⟨n,rfl⟩:∃ k,n=k+2:=⟨n - 2,by omega⟩;rw[Acu (by rw[M3 k1 k2];rfl) (by rw[M3 k1 k2];rfl),pp,if_neg (by omega),if_neg (by omega),if_pos (by rw[M3 k1 k2];rfl)]
 obtain⟨y,qd,p1,p2,p3⟩:=h n qa _ (by rw[Ov (by simpa using h1)];exact k3) ⟨fun l _=>by
  simp only[S3,if_true];rw[show Fx [41]=(0,0) from rfl]
  split<;>rfl,rfl⟩ (by omega)
 obtain⟨t2,qc,rfl,e1,e2,e3⟩:=D4 p2;refine⟨y,qc,?_,e3,p3⟩;rw[p1];simp only;rw[if_pos (by rw[M3 e1 e2];rfl)];rfl
def A6k(qb:J2){x:Xp}(h:ShE x):∀ lvl:Nat,1<=lvl->lvl<=6->Hw x lvl/\(lvl≠3->lvl<=5->S4 x lvl):=by
 have qf:∀ {x:Xp},(6<=A1 x.op)->Hw x 6->∀ lvl:Nat,1<=lvl->lvl<=6->Hw x lvl/\(lvl≠3->lvl<=5->S4 x lvl):=by
  intro x h6 h lvl l1 l2
  have hr:∀ l:Nat,1<=l->l<=6->Hw x l:=fun l h1 h2=>by
   have:=Abg (Ai 6) h (6 - l) (by omega) fun k _ hk=>by omega
   rwa [show 6 - (6 - l)=l by omega]at this
  exact⟨hr lvl l1 l2,fun _ h5=>Afc h5 (by omega) (hr (lvl+1) (by omega) (by omega))⟩
 induction h with
 | @num n z t hn=>
  refine qf (by simp[A1]) (X6 fun m ts r hm hs hl=>?_);rw[Ov (by simp[A1])]at hm;obtain⟨t1,qa,rfl,k1,k2,k3⟩:=D4 (r:=r) (k:=2) (w:=Bw n) (by simpa[Xp.toks,N1] using hm);rw[Ah]at hl;obtain⟨m,rfl⟩:∃ k,m=k+2:=⟨m - 2,by omega⟩;rw[Acu (Sm (.inr k1)) (Sm (.inr k1)),pp,if_pos k1];exact⟨_,_,rfl,k3,by rw[k2,qb n hn];simp[Gt,H6]⟩
 | @name nm z t hn=>
  refine qf (by simp[A1]) (X6 fun m ts r hm hs hl=>?_);rw[Ov (by simp[A1])]at hm;obtain⟨t1,qa,rfl,k1,k2,k3⟩:=D4 (r:=r) (k:=1) (w:=nm) (by simpa[Xp.toks,N1] using hm);rw[Ah]at hl;obtain⟨m,rfl⟩:∃ k,m=k+2:=⟨m - 2,by omega⟩;have qC:Ao [91] qa=false:=by rw[P9,k3];exact hs.2
  rw[Acu (Sm (.inl k1)) (Sm (.inl k1)),pp,if_neg (by omega),if_pos k1,qC];exact⟨_,_,rfl,k3,by rw[k2];simp[Gt,H6]⟩
 | @idx nm z t a hn ha ih=>
  refine qf (by simp[A1]) (X6 fun m ts r hm hs hl=>?_);rw[Ov (by simp[A1])]at hm;obtain⟨t1,qd,rfl,k1,k2,k3⟩:=D4 (r:=(4,[91])::(a.toks++(4,[93])::r)) (k:=1) (w:=nm) (by simpa[Xp.toks,Xp.tokss,N1] using hm);obtain⟨t2,qc,rfl,k4,k5,k6⟩:=D4 k3;simp only[Ah]at hl;obtain⟨m,rfl⟩:∃ k,m=k+2:=⟨m - 2,by omega⟩
  have qe:1<=A1 a.op:=by
   exact(Abf (Aqp ha)).2.1
  obtain⟨y,qi,p1,p2,p3⟩:=(ih 1 (by omega) (by omega)).1 m qc ((4,[93])::r) (by rw[Ov (by simpa using qe)];exact k6) ⟨fun l _=>by
   simp only[S3,if_true];rw[show Fx [93]=(0,0) from rfl]
   split<;>rfl,rfl⟩ (by omega)
  obtain⟨t4,qm,rfl,e1,e2,e3⟩:=D4 p2;rw[Acu (Sm (.inl k1)) (Sm (.inl k1)),pp,if_neg (by omega),if_pos k1,if_pos (by rw[M3 k4 k5];rfl),Mk,p1];simp only;rw[if_pos (by rw[M3 e1 e2];rfl)];exact⟨_,_,rfl,e3,by rw[k2];simp[Gt,H6,p3]⟩
 | @un op z t a qe ha ih=>
  have qw:A1 op=6:=by rcases qe with rfl | rfl<;>rfl
  refine qf (by simp[qw]) (X6 fun m ts r hm hs hl=>?_);rw[Ov (by simp[qw])]at hm
  have e1:Xp.toks ⟨op,0,[],z,t,[a]⟩=(4,By op)::Ht (a.op,a.toks) 6:=by
   simp only[Xp.toks,Xp.tokss,N1];rw[if_neg (by omega),if_neg (by omega),if_neg (by omega)]
  rw[e1,Bq]at hm;obtain⟨t1,qd,rfl,k1,k2,k3⟩:=D4 hm;simp only[Ah]at hl;obtain⟨m,rfl⟩:∃ k,m=k+1:=⟨m - 1,by omega⟩;obtain⟨y,qc,p1,p2,p3⟩:=(ih 6 (by omega) (by omega)).1 (m+1) qd r k3 hs (by omega);rw[pe,if_pos (by omega)]at p1;rcases qe with rfl | rfl
  .rw[pu,if_pos (by rw[M3 k1 k2];rfl),Mk,p1];exact⟨_,_,rfl,p2,by simp[Gt,H6,Mc,p3]⟩
  .rw[pu,if_neg (by rw[M3 k1 k2];decide),if_pos (by rw[M3 k1 k2];rfl),Mk,p1];exact⟨_,_,rfl,p2,by simp[Gt,H6,Mc,p3]⟩
 | @bin op z t a b qe ha hb iha ihb=>
  obtain⟨-,l1,l2,-⟩:=X5 qe;obtain⟨L,hL⟩:∃ L:Nat,A1 op=L:=⟨(A1 op).toNat,by omega⟩
  have own:Hw ⟨op,0,[],z,t,[a,b]⟩ L/\(L≠3->S4 ⟨op,0,[],z,t,[a,b]⟩ L):=by
   by_cases h3:L=3
   .subst h3;exact⟨A6i qe hL (iha 4 (by omega) (by omega)).1 (ihb 4 (by omega) (by omega)).1,fun h=>absurd rfl h⟩
   .have:=A6h (z:=z) (t:=t) qe hL h3 ((iha L (by omega) (by omega)).2 h3 (by omega)) (ihb (L+1) (by omega) (by omega)).1;exact⟨Amv this,fun _=>this⟩
  have low:∀ l:Nat,1<=l->l<=L->Hw ⟨op,0,[],z,t,[a,b]⟩ l:=fun l h1 h2=>by
   have:=Abg (by omega) own.1 (L - l) (by omega) fun k h3 h4=>by simp only;omega
   rwa [show L - (L - l)=l by omega]at this
  have qD:=A6j (by simp only;omega) (low 1 (by omega) (by omega)) (by simp only;omega)
  have hr:∀ l:Nat,1<=l->l<=6->Hw ⟨op,0,[],z,t,[a,b]⟩ l:=fun l h1 h2=>by
   by_cases hl:l<=L
   .exact low l h1 hl
   .have:=Abg (Ai 6) qD (6 - l) (by omega) fun k h3 h4=>by simp only;omega
    rwa [show 6 - (6 - l)=l by omega]at this
  intro lvl q1 q2;refine⟨hr lvl q1 q2,fun h3 h5=>?_⟩;by_cases hl:lvl=L
  .subst hl;exact own.2 h3
  .exact Afc h5 (by simp only;omega) (hr (lvl+1) (by omega) (by omega))
/-! what a shaped program has -/
def U0(x:Xp):Prop:=x.op=0/\x.n=0/\x.nm=[]/\x.l=[]
def Ft(op:Int):Bool:=op==2||(op==3||(op==7||op==8))
def Dy(op:Int):Bool:=op==1||(op==2||(op==3||op==14))
inductive ShS:Sp->Prop
 | mk {s:Sp}:1<=s.op/\s.op<=15->(Ft s.op=true->s.nm=[])->(Ft s.op=false->Bv s.nm=true)->(s.op=15->Bv s.arg=true)->(s.op≠15->s.arg=[]) ->
   s.idx.length<=1->(s.op≠1->s.idx=[])->(∀ x∈s.idx,ShE x)->(Dy s.op=true->ShE s.ex)->(Dy s.op=false->U0 s.ex) ->
   (Bn s.op=false->s.body=[])->(s.op≠2->s.els=[])->(∀ x∈s.body,ShS x)->(∀ x∈s.els,ShS x)->ShS s
structure ShD (d:Dp):Prop where
 kind:1<=d.kind/\d.kind<=6
 nm:Bv d.nm=true
 size:0<=d.size/\d.size<=9223372036854775807/\(d.kind≠1->d.size=0)
 init : -9223372036854775808<d.init/\d.init<=9223372036854775807/\(d.kind≠1->d.kind≠2->d.init=0)
 on:(d.kind=5->Bv d.on=true)/\(d.kind≠5->d.on=[])
structure ShG (p:Gp):Prop where
 decls:∀ d∈p.decls,ShD d
 nms:∀ t∈p.thrs,Bv t.nm=true
 locs:∀ t∈p.thrs,∀ s∈t.locals,Bv s=true
 thrs:∀ t∈p.thrs,∀ s∈t.body,ShS s
 some:p.thrs≠[]
def Ag0{s:Sp}(h:ShS s):CnS s:=by
 induction h with
 | mk h1 h2 h3 h4 h5 h6 h7 h8 h9 h10 h11 h12 h13 h14 ih1 ih2=>
  refine .mk h1 h6 h7 (fun x hx=>Aqq (h8 x hx)) (fun hv=>Aqq (h9 ?_)) h11 h12 ih1 ih2
  rcases hv with h | h | h | h<;>rw[h]<;>rfl
def Ag1{p:Gp}(h:ShG p):CnG p:=⟨fun d hd=>let h:=h.decls d hd;⟨h.kind,h.size,by have:=h.init;omega,by have:=h.init;omega,h.init.2.2⟩,fun t ht s hs=>Ag0 (h.thrs t ht s hs)⟩
/-! equal apart from lines -/
mutual
def Vh:Sp->Sp->Bool
 | ⟨op,_,nm,arg,_,_,idx,ex,_,_,body,_,_,els⟩,⟨op',_,nm',arg',_,_,idx',ex',_,_,body',_,_,els'⟩=>op==op'&&(nm==nm'&&(arg==arg'&&(Gt ex ex'&&(H6 idx idx'&&(Ly body body'&&Ly els els')))))
def Ly:List Sp->List Sp->Bool
 | [],[]=>true
 | x::l,y::l'=>Vh x y&&Ly l l'
 | [],_::_=>false
 | _::_,[]=>false
end
def Yl(a b:Dp):Bool:=a.kind==b.kind&&(a.nm==b.nm&&(a.size==b.size&&(a.init==b.init&&a.on==b.on)))
def Vi(a b:Tp):Bool:=a.nm==b.nm&&(a.locals==b.locals&&Ly a.body b.body)
def Ym(a b:Gp):Bool:=(a.decls.length==b.decls.length&&(a.decls.zip b.decls).all fun p=>Yl p.1 p.2)&&(a.thrs.length==b.thrs.length&&(a.thrs.zip b.thrs).all fun p=>Vi p.1 p.2)
/-! tokens -/
def Vw(l:List Xp):List Kt:=match l with
 | a::_=>(4,[91])::(a.toks++[(4,[93])])
 | []=>[]
def Vj(s:Sp):List Kt:=
 if s.op=1 then(1,s.nm)::(Vw s.idx++(4,[61])::s.ex.toks)
 else if s.op=2\/s.op=3 then(3,Cj s.op)::s.ex.toks
 else if s.op=7\/s.op=8 then [(3,Cj s.op)]
 else if s.op=14 then(3,Cj s.op)::(1,s.nm)::s.ex.toks
 else if s.op=15 then [(3,Cj s.op),(1,s.nm),(1,s.arg)]
 else [(3,Cj s.op),(1,s.nm)]
def Qv:List UInt8:=[101,108,115,101]
mutual
def Sp.toks:Sp->List Kt
 | ⟨op,line,nm,arg,iz,it,idx,ex,bz,bt,body,ez,et,els⟩=>
  Vj ⟨op,line,nm,arg,iz,it,idx,ex,bz,bt,body,ez,et,els⟩ ++
   if Bn op then(4,[123])::(Sp.tokss body++(4,[125])::(if els.isEmpty then [] else(3,Qv)::(4,[123])::(Sp.tokss els++[(4,[125])]))) else [(4,[59])]
def Sp.tokss:List Sp->List Kt
 | []=>[]
 | x::l=>x.toks++Sp.tokss l
end
def Avw:((List.range 14).all fun i=>D0 (Cj ((i:Int)+2))==(i:Int)+2)=true:=by decide
def A18{op:Int}(h:2<=op/\op<=15):D0 (Cj op)=op:=by
 obtain⟨i,hi,rfl⟩:∃ i:Nat,i<14/\op=(i:Int)+2:=⟨(op - 2).toNat,by omega,by omega⟩;simpa using Bh.1 Avw i (En.2 hi)
def Abh(qb:J2){x:Xp}(h:ShE x){n:Nat}{ts:List Tk}{r:List Kt}(hm:ts.map Tk.kt=x.toks++r)(hs:Qu 1 r)(hn:8*ts.length+7<=n+1):∃ y qa,pe n 1 ts=some (y,qa)/\qa.map Tk.kt=r/\Gt x y=true:=by
 refine(A6k qb h 1 (by omega) (by omega)).1 n ts r ?_ hs hn;have:=(Abf (Aqp h)).2.1;rw[Ov (by simpa using this)];exact hm
def Aak{w:List UInt8}(h1:Fx w=(0,0))(h2:(w==[91])=false)(r:List Kt):Qu 1 ((4,w)::r):=⟨fun l _=>by
 simp only[S3,if_true,h1]
 split<;>rfl,by simp only[Jl];simp at h2 ⊢;exact h2⟩
def Nm{k:Int}{w:List UInt8}{t:Tk}{ts:List Tk}(hk:k=3\/k=4)(h:t.kind=k)(hw:t.text=w):Ao w (t::ts)=true:=by
 simp only[Ao];rw[h,hw]
 rcases hk with rfl | rfl<;>simp
def K8{w:List UInt8}{ts:List Tk}{r:List Kt}(h:ts.map Tk.kt=(4,w)::r):∃ qa,Dn w ts=some qa/\qa.map Tk.kt=r:=by
 obtain⟨t,qa,rfl,h1,h2,h3⟩:=D4 h;exact⟨qa,by simp only[Dn];rw[Nm (.inr rfl) h1 h2];rfl,h3⟩
def Mr{w:List UInt8}{ts:List Tk}{r:List Kt}(h:ts.map Tk.kt=(1,w)::r):∃ qa,C4 ts=some (w,qa)/\qa.map Tk.kt=r:=by
 obtain⟨t,qa,rfl,h1,h2,h3⟩:=D4 h;exact⟨qa,by simp only[C4];rw[if_pos h1,h2],h3⟩
def Gu{ts:List Tk}{r:List Kt}(h:ts.map Tk.kt=r):ts.length=r.length:=by
 have:=congrArg List.length h;simpa using this
def A6l(qb:J2){s:Sp}(h1:s.idx.length<=1)(h2:∀ x∈s.idx,ShE x)(h3:ShE s.ex){n:Nat}{line:Int}{ts:List Tk}{r:List Kt}(hm:ts.map Tk.kt=(1,s.nm)::(Vw s.idx++(4,[61])::(s.ex.toks++(4,[59])::r)))(hn:8*ts.length+7<=n+1):
  ∃ s' qa,Ph n line ts=some (s',qa)/\qa.map Tk.kt=r/\s'.op=1/\s'.nm=s.nm/\s'.arg=[]/\H6 s.idx s'.idx=true/\Gt s.ex s'.ex=true/\s'.body=[]/\s'.els=[]:=by
 have hl:=Gu hm;obtain⟨qd,a1,a2⟩:=Mr hm;have qk:=Gu a2;simp only[Ah,Aj]at hl qk
 have qt:∃ ix qc,Yv n qd=some (ix,qc)/\qc.map Tk.kt=(4,[61])::(s.ex.toks++(4,[59])::r)/\H6 s.idx ix=true:=by
  unfold Yv
  match hi:s.idx,h1 with
  | [],_=>
   rw[hi]at a2;obtain⟨t,qa,rfl,k1,k2,k3⟩:=D4 a2;rw[if_neg (by rw[M3 k1 k2];decide)];exact⟨_,_,rfl,a2,rfl⟩
  | [a],_=>
   rw[hi]at a2;simp only[Vw,Bq,Br,Bf]at a2;obtain⟨t,qa,rfl,k1,k2,k3⟩:=D4 a2;have qg:=Gu k3;simp only[Ah,Aj]at qg qk;obtain⟨y,qi,p1,p2,p3⟩:=Abh qb (h2 a (by rw[hi];simp)) k3 (Aak rfl rfl _) (n:=n) (by rw[hi]at hl qk;simp only[Vw,Ah,Aj]at hl qk;omega);obtain⟨qm,q1,q2⟩:=K8 p2;rw[if_pos (by rw[M3 k1 k2];rfl),Mk,p1];simp only;rw[q1];exact⟨_,_,rfl,q2,by simp[H6,p3]⟩
  | _::_::_,h=>simp at h
 obtain⟨ix,qc,b1,b2,b3⟩:=qt;obtain⟨qi,c1,c2⟩:=K8 b2;have ql:=Gu c2;simp only[Ah,Aj]at ql;obtain⟨y,qm,d1,d2,d3⟩:=Abh qb h3 c2 (Aak rfl rfl _) (n:=n) (by omega);obtain⟨qx,e1,e2⟩:=K8 d2;refine⟨{ Al 1 line with nm:=s.nm,it:=ix.length,idx:=ix,ex:=y },qx,?_,e2,rfl,rfl,rfl,b3,d3,rfl,rfl⟩;unfold Ph;rw[a1];simp only;rw[b1];simp only;rw[c1];simp only;rw[d1];simp only;rw[e1];rfl
def P0{s s':Sp}(h1:s.op=s'.op)(h2:s.nm=s'.nm)(h3:s.arg=s'.arg)(h4:Gt s.ex s'.ex=true)(h5:H6 s.idx s'.idx=true)(h6:Ly s.body s'.body=true)(h7:Ly s.els s'.els=true):Vh s s'=true:=by
 cases s;cases s';simp only at h1 h2 h3 h4 h5 h6 h7;subst h1 h2 h3;simp[Vh,h4,h5,h6,h7]
def Aab{x:Xp}(h:U0 x):Gt x Xp.zero=true:=by
 obtain⟨h1,h2,h3,h4⟩:=h;cases x;simp only at h1 h2 h3 h4;subst h1 h2 h3 h4;rfl
def RTs(s:Sp):Prop:=∀ (n:Nat) (ts:List Tk) (r:List Kt),ts.map Tk.kt=s.toks++r->Jl Qv r=false->10*ts.length+10<=n->∃ s' qa,Fh n ts=some (s',qa)/\qa.map Tk.kt=r/\Vh s s'=true
def Alh{s:Sp}(h:ShS s):∃ k w l,s.toks=(k,w)::l/\((k=1/\s.op=1)\/(k=3/\w=Cj s.op/\2<=s.op/\s.op<=15)):=by
 obtain⟨op,line,nm,arg,iz,it,idx,ex,bz,bt,body,ez,et,els⟩:=s
 cases h with
 | mk h1=>
  simp only at h1;simp only[Sp.toks,Vj];by_cases a:op=1
  .rw[if_pos a];exact⟨_,_,_,rfl,.inl ⟨rfl,a⟩⟩
  rw[if_neg a];have hr:2<=op/\op<=15:=by omega
  by_cases b:op=2\/op=3
  .rw[if_pos b];exact⟨_,_,_,rfl,.inr ⟨rfl,rfl,hr⟩⟩
  rw[if_neg b];by_cases c:op=7\/op=8
  .rw[if_pos c];exact⟨_,_,_,rfl,.inr ⟨rfl,rfl,hr⟩⟩
  rw[if_neg c];by_cases d:op=14
  .rw[if_pos d];exact⟨_,_,_,rfl,.inr ⟨rfl,rfl,hr⟩⟩
  rw[if_neg d];by_cases e:op=15
  .rw[if_pos e];exact⟨_,_,_,rfl,.inr ⟨rfl,rfl,hr⟩⟩
  rw[if_neg e];exact⟨_,_,_,rfl,.inr ⟨rfl,rfl,hr⟩⟩
def Aul:((List.range 14).all fun i=>Cj ((i:Int)+2) != Qv)=true:=by decide
def Akc{s:Sp}(h:ShS s)(r:List Kt):Jl Qv (s.toks++r)=false/\Jl [125] (s.toks++r)=false:=by
 obtain⟨k,w,l,e,hk⟩:=Alh h;rw[e,Bq];rcases hk with⟨rfl,-⟩ | ⟨rfl,rfl,h2⟩
 .exact⟨rfl,rfl⟩
 .obtain⟨i,hi,he⟩:∃ i:Nat,i<14/\s.op=(i:Int)+2:=⟨(s.op - 2).toNat,by omega,by omega⟩;have h1:=Bh.1 Aul i (En.2 hi);have h2:((List.range 14).all fun i=>Cj ((i:Int)+2) != [125])=true:=by decide
  have h2:=Bh.1 h2 i (En.2 hi);rw[<-he]at h1 h2;simp only[bne_iff_ne,ne_eq]at h1 h2;simp only[Jl];simp[h1,h2]
def Ao5:∀ {l:List Sp},(∀ s∈l,ShS s)->(∀ s∈l,RTs s)->∀ {n:Nat} {ts:List Tk} {r:List Kt},ts.map Tk.kt=Sp.tokss l++(4,[125])::r->10*ts.length+11<=n->∃ l' qa,Hv n ts=some (l',qa)/\qa.map Tk.kt=r/\Ly l l'=true
 | [],_,_,n,ts,r,hm,hn=>by
  obtain⟨n,rfl⟩:∃ k,n=k+1:=⟨n - 1,by omega⟩;simp only[Sp.tokss,Bf]at hm;obtain⟨t,qa,rfl,k1,k2,k3⟩:=D4 hm;exact⟨[],qa,by rw[Hv,if_pos (Nm (.inr rfl) k1 k2)];rfl,k3,rfl⟩
 | s::l,h1,h2,n,ts,r,hm,hn=>by
  obtain⟨n,rfl⟩:∃ k,n=k+1:=⟨n - 1,by omega⟩;simp only[Sp.tokss,Br]at hm;have hs:=h1 s Cx
  have qs:Jl Qv (Sp.tokss l++(4,[125])::r)=false:=by
   cases l with
   | nil=>rfl
   | cons s2 l=>
    simp only[Sp.tokss,Br];exact(Akc (h1 s2 (by simp)) _).1
  obtain⟨s',qd,p1,p2,p3⟩:=h2 s Cx n ts _ hm qs (by omega);have hl:=Gu hm;have qk:=Gu p2;obtain⟨k,w,q,e,-⟩:=Alh hs;rw[e]at hl;simp only[Ah,Aj]at hl qk;obtain⟨l',qc,q1,q2,q3⟩:=Ao5 (n:=n) (l:=l) (fun s hs=>h1 s (Cs _ hs)) (fun s hs=>h2 s (Cs _ hs)) p2 (by omega);refine⟨s'::l',qc,?_,q2,by simp[Ly,p3,q3]⟩;rw[Hv,if_neg (by rw[P9,hm,(Akc hs _).2];simp),p1];simp only;rw[q1]
def W8{l:List Sp}(h1:∀ s∈l,ShS s)(h2:∀ s∈l,RTs s){n:Nat}{ts:List Tk}{r:List Kt}(hm:ts.map Tk.kt=(4,[123])::(Sp.tokss l++(4,[125])::r))(hn:10*ts.length+2<=n):∃ l' qa,Eu n ts=some (l',qa)/\qa.map Tk.kt=r/\Ly l l'=true:=by
 obtain⟨t,qa,rfl,k1,k2,k3⟩:=D4 hm;rw[Ah]at hn;obtain⟨n,rfl⟩:∃ k,n=k+1:=⟨n - 1,by omega⟩;obtain⟨l',qd,p1,p2,p3⟩:=Ao5 (n:=n) h1 h2 k3 (by omega);exact⟨l',qd,by rw[Eu,if_pos (Nm (.inr rfl) k1 k2)];exact p1,p2,p3⟩
def A19(qb:J2){s:Sp}(h:ShS s):RTs s:=by
 induction h with
 | @mk s h1 h2 h3 h4 h5 h6 h7 h8 h9 h10 h11 h12 h13 h14 ih1 ih2=>
  intro n ts r hm qs hn;obtain⟨op,line,nm,arg,iz,it,idx,ex,bz,bt,body,ez,et,els⟩:=s;simp only at h1 h2 h3 h4 h5 h6 h7 h8 h9 h10 h11 h12 h13 h14 ih1 ih2;simp only[Sp.toks,Vj]at hm;obtain⟨n,rfl⟩:∃ k,n=k+1:=⟨n - 1,by omega⟩;by_cases a:op=1
  .subst a;rw[if_pos rfl,if_neg (by decide)]at hm;simp only[Bq,Br,Bf]at hm;obtain⟨t,qa,rfl,k1,k2,k3⟩:=D4 hm;obtain⟨s',qd,p1,p2,p3,p4,p5,p6,p7,p8,p9⟩:=A6l qb (s:=⟨1,line,nm,arg,iz,it,idx,ex,bz,bt,body,ez,et,els⟩) h6 h8 (h9 rfl) (line:=t.line) hm (n:=n) (by omega);refine⟨s',qd,by rw[Fh,if_pos k1];exact p1,p2,P0 p3.symm p4.symm ?_ p7 p6 ?_ ?_⟩
   .rw[p5];exact h5 (by decide)
   .rw[p8];simp only;rw[h11 rfl];rfl
   .rw[p9];simp only;rw[h12 (by decide)];rfl
  have hr:2<=op/\op<=15:=by omega
  have qA:=h7 a;subst qA;have hw:=A18 hr;rw[if_neg a]at hm;by_cases b:op=2\/op=3
  .have hv:Dy op=true:=by rcases b with rfl | rfl<;>rfl
   have hb:Bn op=true:=by rcases b with rfl | rfl<;>rfl
   have qq:nm=[]:=h2 (by rcases b with rfl | rfl<;>rfl);rw[if_pos b,if_pos hb]at hm;simp only[Bq,Br,Bf]at hm;obtain⟨t,qd,rfl,k1,k2,k3⟩:=D4 hm;have hl:=Gu k3;rw[Ah]at hn;simp only[Aj,Ah]at hl;obtain⟨y,qc,p1,p2,p3⟩:=Abh qb (h9 hv) k3 (Aak rfl rfl _) (n:=n) (by omega);have qg:=Gu p2;simp only[Aj,Ah]at qg;obtain⟨bd,qi,q1,q2,q3⟩:=W8 h13 ih1 p2 (n:=n) (by omega);have ql:=Gu q2;simp only[Aj]at ql;rw[Fh,if_neg (by omega),if_pos k1,k2,hw,if_neg (by omega),if_pos b,p1];simp only;rw[q1];simp only;by_cases he:els=[]
   .subst he;simp only[List.isEmpty_nil,if_true,Bf]at q2;rw[if_neg (by rw[P9,q2,show [101,108,115,101]=Qv from rfl,qs];simp)];exact⟨_,_,rfl,q2,P0 rfl (by simp[Al,qq]) (by simpa[Al] using h5 (by omega)) p3 rfl q3 rfl⟩
   .have h2:op=2:=by
     by_cases h:op=2
     .exact h
     .exact absurd (h12 h) he
    have qz:els.isEmpty=false:=by simpa using he
    rw[qz]at q2 ql qg hl;simp only[Ez,if_false,Bq,Br,Bf,Ah,Aj]at q2 ql qg hl;obtain⟨t4,qm,rfl,k4,k5,k6⟩:=D4 q2;have qB:=Gu k6;simp only[Aj,Ah]at qB ql;obtain⟨ed,qx,r1,r2,r3⟩:=W8 h14 ih2 k6 (n:=n) (by omega);rw[if_pos ⟨h2,Nm (.inl rfl) k4 k5⟩,Mk,r1];exact⟨_,_,rfl,r2,P0 rfl (by simp[Al,qq]) (by simpa[Al] using h5 (by omega)) p3 rfl q3 r3⟩
  rw[if_neg b]at hm;have qy:els=[]:=h12 (by omega);subst qy;by_cases c:op=7\/op=8
  .have hb:Bn op=true:=by rcases c with rfl | rfl<;>rfl
   have qq:nm=[]:=h2 (by rcases c with rfl | rfl<;>rfl);have qj:U0 ex:=h10 (by rcases c with rfl | rfl<;>rfl);rw[if_pos c,if_pos hb]at hm;simp only[Bq,Br,Bf,List.isEmpty_nil,if_true]at hm;obtain⟨t,qd,rfl,k1,k2,k3⟩:=D4 hm;rw[Ah]at hn;obtain⟨bd,qi,q1,q2,q3⟩:=W8 h13 ih1 k3 (n:=n) (by omega);rw[Fh,if_neg (by omega),if_pos k1,k2,hw,if_neg (by omega),if_neg b,if_pos c,q1];exact⟨_,_,rfl,q2,P0 rfl (by simp[Al,qq]) (by simpa[Al] using h5 (by omega)) (Aab qj) rfl q3 rfl⟩
  rw[if_neg c]at hm;have qG:op≠2/\op≠3/\op≠7/\op≠8:=by omega
  by_cases d:op=14
  .subst d;rw[if_pos rfl,if_neg (by decide)]at hm;simp only[Bq,Br,Bf]at hm;obtain⟨t,qd,rfl,k1,k2,k3⟩:=D4 hm;rw[Ah]at hn;obtain⟨qc,a1,a2⟩:=Mr k3;have hl:=Gu k3;have qg:=Gu a2;simp only[Aj,Ah]at hl qg;obtain⟨y,qi,p1,p2,p3⟩:=Abh qb (h9 rfl) a2 (Aak rfl rfl _) (n:=n) (by omega);obtain⟨qm,e1,e2⟩:=K8 p2;rw[Fh,if_neg (by omega),if_pos k1,k2,hw,if_neg (by omega),if_neg b,if_neg c,a1];simp only;rw[if_neg (by omega),if_pos trivial,p1];simp only;rw[e1];exact⟨_,_,rfl,e2,P0 rfl rfl (by simpa[Al] using h5 (by omega)) p3 rfl (by simp only;rw[h11 rfl];rfl) rfl⟩
  rw[if_neg d]at hm;by_cases e:op=15
  .subst e;rw[if_pos rfl,if_neg (by decide)]at hm;simp only[Bq,Br,Bf]at hm;obtain⟨t,qd,rfl,k1,k2,k3⟩:=D4 hm;obtain⟨qc,a1,a2⟩:=Mr k3;obtain⟨qi,b1,b2⟩:=Mr a2;obtain⟨qm,e1,e2⟩:=K8 b2;have qj:U0 ex:=h10 rfl;rw[Fh,if_neg (by omega),if_pos k1,k2,hw,if_neg (by omega),if_neg b,if_neg c,a1];simp only;rw[if_neg (by omega),if_neg (by omega),if_pos trivial,b1];simp only;rw[e1];exact⟨_,_,rfl,e2,P0 rfl rfl rfl (Aab qj) rfl (by simp only;rw[h11 rfl];rfl) rfl⟩
  rw[if_neg e]at hm;have qj:U0 ex:=h10 (by unfold Dy;simp;omega);by_cases f:op=4\/op=5\/op=6
  .have hb:Bn op=true:=by rcases f with rfl | rfl | rfl<;>rfl
   rw[if_pos hb]at hm;simp only[Bq,Br,Bf,List.isEmpty_nil,if_true]at hm;obtain⟨t,qd,rfl,k1,k2,k3⟩:=D4 hm;rw[Ah]at hn;obtain⟨qc,a1,a2⟩:=Mr k3;have hl:=Gu k3;have qg:=Gu a2;simp only[Aj,Ah]at hl qg;obtain⟨bd,qi,q1,q2,q3⟩:=W8 h13 ih1 a2 (n:=n) (by omega);rw[Fh,if_neg (by omega),if_pos k1,k2,hw,if_neg (by omega),if_neg b,if_neg c,a1];simp only;rw[if_pos f,q1];exact⟨_,_,rfl,q2,P0 rfl rfl (by simpa[Al] using h5 (by omega)) (Aab qj) rfl q3 rfl⟩
  .have hb:Bn op=false:=by unfold Bn;simp;omega
   rw[if_neg (by rw[hb];simp)]at hm;simp only[Bq,Br,Bf]at hm;obtain⟨t,qd,rfl,k1,k2,k3⟩:=D4 hm;obtain⟨qc,a1,a2⟩:=Mr k3;obtain⟨qm,e1,e2⟩:=K8 a2;rw[Fh,if_neg (by omega),if_pos k1,k2,hw,if_neg (by omega),if_neg b,if_neg c,a1];simp only;rw[if_neg f,if_neg d,if_neg e,e1];exact⟨_,_,rfl,e2,P0 rfl rfl (by simpa[Al] using h5 (by omega)) (Aab qj) rfl (by simp only;rw[h11 hb];rfl) rfl⟩
def Xq(p:UInt8->Bool):∀ l:List UInt8,(l.dropWhile p).length<=l.length
 | []=>Ai _
 | c::r=>by
  rw[Tc]
  split
  .exact Nat.le_succ_of_le (Xq p r)
  .exact Ai _
def Ao6{c:UInt8}{r:List UInt8}(h:G9 (c::r)≠0):1<=G9 (c::r)/\G9 (c::r)<=(c::r).length:=by
 unfold G9 at h ⊢
 split
 .rename_i h1;simp only[Af,decide_eq_true_eq]at h1;exact⟨by omega,h1.1⟩
 .simp only[Ah]
  split
  .omega
  .rename_i h1 h2;rw[if_neg h1]at h;simp only[if_neg h2]at h;exact absurd rfl h
def Wq{c:UInt8}{r:List UInt8}{k:Int}{w:List UInt8}(h:Is (c::r)=some (k,w)):1<=w.length/\∃ q,c::r=w++q:=by
 unfold Is at h;simp only at h
 split at h
 .split at h
  .cases h
  .cases h;exact⟨by simp[El],r.dropWhile Gw,by simp[El,List.takeWhile_append_dropWhile]⟩
 .split at h
  .split at h
   .cases h
   .split at h
    .cases h;exact⟨by simp[Ee],r.dropWhile Dw,by simp[Ee,List.takeWhile_append_dropWhile]⟩
    .cases h
  .split at h
   .cases h
   .rename_i hs;have:=Ao6 hs;cases h;exact⟨by rw[Gz];omega,(c::r).drop (G9 (c::r)),(Li _ _).symm⟩
def Uj:∀ (n m:Nat) (ln:Int) (l:List UInt8),l.length<=n->l.length<=m->C0 n ln l=C0 m ln l
 | n,m,ln,[],_,_=>by cases n<;>cases m<;>rfl
 | 0,_,_,_::_,h,_=>by simp at h
 | _+1,0,_,_::_,_,h=>by simp at h
 | n+1,m+1,ln,c::r,h1,h2=>by
  rw[Ah]at h1 h2;unfold C0;by_cases e1:c=10
  .rw[if_pos e1,if_pos e1];exact Uj n m _ r (by omega) (by omega)
  rw[if_neg e1,if_neg e1];by_cases e2:c=32\/c=9\/c=13
  .rw[if_pos e2,if_pos e2];exact Uj n m _ r (by omega) (by omega)
  rw[if_neg e2,if_neg e2];by_cases e3:c=47/\r.head?=some 47
  .rw[if_pos e3,if_pos e3]
   have hd:((c::r).dropWhile (· != 10)).length<=r.length:=by
    rw[Tc,if_pos (by simp[e1])];exact Xq _ r
   exact Uj n m _ _ (by omega) (by omega)
  rw[if_neg e3,if_neg e3]
  cases hf:Is (c::r) with
  | none=>rfl
  | some p=>
   obtain⟨k,w⟩:=p;have hw:=(Wq hf).1;simp only;rw[Uj n m ln _ (by rw[Dx,Ah];omega) (by rw[Dx,Ah];omega)]
def Rd(o:Option (List Tk)):Option (List Kt):=o.map fun l=>l.map Tk.kt
def Wy:∀ (n:Nat) (ln qp:Int) (l:List UInt8),Rd (C0 n ln l)=Rd (C0 n qp l)
 | n,ln,qp,[]=>by cases n<;>rfl
 | 0,_,_,_::_=>rfl
 | n+1,ln,qp,c::r=>by
  unfold C0;by_cases e1:c=10
  .rw[if_pos e1,if_pos e1];exact Wy n _ _ r
  rw[if_neg e1,if_neg e1];by_cases e2:c=32\/c=9\/c=13
  .rw[if_pos e2,if_pos e2];exact Wy n _ _ r
  rw[if_neg e2,if_neg e2];by_cases e3:c=47/\r.head?=some 47
  .rw[if_pos e3,if_pos e3];exact Wy n _ _ _
  rw[if_neg e3,if_neg e3]
  cases hf:Is (c::r) with
  | none=>rfl
  | some p=>
   obtain⟨k,w⟩:=p;simp only;have:=Wy n ln qp ((c::r).drop w.length);unfold Rd at this ⊢;simp only[Option.map_map]at this ⊢;revert this
   cases C0 n ln ((c::r).drop w.length)<;>cases C0 n qp ((c::r).drop w.length)<;>intro this
   .rfl
   .cases this
   .cases this
   .simp only[Fr,Oh]at this ⊢;simp only[Function.comp_apply,Aw,this];rfl
def B0(l:List UInt8):Option (List Kt):=Rd (C0 l.length 1 l)
def Amx{n:Nat}{ln:Int}{l:List UInt8}(h:l.length<=n):Rd (C0 n ln l)=B0 l:=by
 unfold B0;rw[Uj n l.length ln l h (Ai _)];exact Wy _ _ _ _
def A6m:B0 []=some []:=rfl
def Qw(r:List UInt8):B0 (10::r)=B0 r:=by
 unfold B0;rw[Ah,C0,if_pos rfl];exact Amx (Ai _)
def Er(r:List UInt8):B0 (32::r)=B0 r:=by
 unfold B0;rw[Ah,C0,if_neg (by decide),if_pos (.inl rfl)]
def A6n(n:Nat)(r:List UInt8):B0 (List.replicate n 32++r)=B0 r:=by
 induction n with
 | zero=>rfl
 | succ n ih=>rw[Ta,Bq,Er,ih]
def cons(ks:List Kt)(o:Option (List Kt)):Option (List Kt):=o.map fun l=>ks++l
def E8(a b:List Kt)(o:Option (List Kt)):cons a (cons b o)=cons (a++b) o:=by cases o<;>simp[cons]
def W9(o:Option (List Kt)):cons [] o=o:=by cases o<;>rfl
def U1{c:UInt8}{r w q:List UInt8}{k:Int}(he:c::r=w++q)(hf:Is (c::r)=some (k,w))(h1:c≠10/\c≠32/\c≠9/\c≠13)(h2:¬ (c=47/\r.head?=some 47)):B0 (c::r)=cons [(k,w)] (B0 q):=by
 have h3:¬ (c=32\/c=9\/c=13):=fun h=>by
  rcases h with h | h | h
  .exact h1.2.1 h
  .exact h1.2.2.1 h
  .exact h1.2.2.2 h
 have e:Rd (C0 (c::r).length 1 (c::r))=cons [(k,w)] (Rd (C0 r.length 1 q)):=by
  rw[Ah,C0,if_neg h1.1,if_neg h3,if_neg h2,hf];simp only;rw[he,List.drop_left]
  cases C0 r.length 1 q<;>rfl
 unfold B0 at e ⊢;rw[e];congr 1;refine Amx ?_;have hw:=(Wq hf).1;have:=congrArg List.length he;rw[Aj,Ah]at this;omega
def Nh(c:UInt8)(r:List UInt8):Is (c::r)=if F1 c then(if 12<(El c r).length then none else some (if Gc (El c r) then 3 else 1,El c r))
  else if Dw c then(if O7 (r.dropWhile Dw) then none else if Nz (Ee c r) then some (2,Ee c r) else none)
  else if G9 (c::r)=0 then none else some (4,(c::r).take (G9 (c::r))):=rfl
def Jf(r:List UInt8):Prop:=∀ c∈r.head?,Gw c=false
def Jr{c:UInt8}(r:List UInt8)(h:Gw c=false):Jf (c::r):=fun d hd=>by cases hd;exact h
def Aec{p:UInt8->Bool}:∀ (cs r:List UInt8),(∀ c∈cs,p c=true)->(∀ c∈r.head?,p c=false)->(cs++r).takeWhile p=cs/\(cs++r).dropWhile p=r
 | [],[],_,_=>⟨rfl,rfl⟩
 | [],c::r,_,h=>by
  have:=h c rfl;simp[Td,Tc,this]
 | c::cs,r,h1,h2=>by
  have:=Aec cs r (fun d hd=>h1 d (Cs _ hd)) h2;simp[Td,Tc,h1 c Cx,this]
def Avx:((List.range 256).all fun n=>!J7 n||(decide (n≠10)&&(decide (n≠32)&&(decide (n≠9)&&(decide (n≠13)&&(decide (n≠47)&&(decide (n≠61)&&Jj n)))))))=true:=by decide +kernel
def Avy:((List.range 256).all fun n=>!M9 n||(decide (n≠10)&&(decide (n≠32)&&(decide (n≠9)&&(decide (n≠13)&&(decide (n≠47)&&(decide (n≠61)&&(!J7 n&&Jj n))))))))=true:=by decide +kernel
def L5{c:UInt8}{n:Nat}(hn:n<256)(h:c.toNat≠n):c≠UInt8.ofNat n:=by
 intro e;subst e;exact h (by simp[UInt8.toNat_ofNat,Tj hn])
def Af4{c:UInt8}(h:F1 c=true):(c≠10/\c≠32/\c≠9/\c≠13)/\c≠47/\c≠61/\Gw c=true:=by
 have:=Bh.1 Avx c.toNat (En.2 c.toNat_lt);unfold F1 at h;rw[h]at this;simp only[Ar,Tq,Af,decide_eq_true_eq]at this;obtain⟨a1,a2,a3,a4,a5,a6,a7⟩:=this;exact⟨⟨L5 (n:=10) (by decide) a1,L5 (n:=32) (by decide) a2,L5 (n:=9) (by decide) a3,L5 (n:=13) (by decide) a4⟩,L5 (n:=47) (by decide) a5,L5 (n:=61) (by decide) a6,a7⟩
def Ao7{c:UInt8}(h:Dw c=true):(c≠10/\c≠32/\c≠9/\c≠13)/\c≠47/\c≠61/\F1 c=false/\Gw c=true:=by
 have:=Bh.1 Avy c.toNat (En.2 c.toNat_lt);unfold Dw at h;rw[h]at this;simp only[Ar,Tq,Af,decide_eq_true_eq,I5]at this;obtain⟨a1,a2,a3,a4,a5,a6,a7,a8⟩:=this;exact⟨⟨L5 (n:=10) (by decide) a1,L5 (n:=32) (by decide) a2,L5 (n:=9) (by decide) a3,L5 (n:=13) (by decide) a4⟩,L5 (n:=47) (by decide) a5,L5 (n:=61) (by decide) a6,a7,a8⟩
def Ao8{c:UInt8}{cs r:List UInt8}(h1:F1 c=true)(h2:∀ d∈cs,Gw d=true)(h3:(c::cs).length<=12)(hr:Jf r):B0 ((c::cs)++r)=cons [(if Gc (c::cs) then 3 else 1,c::cs)] (B0 r):=by
 obtain⟨a1,a2,-⟩:=Af4 h1;have ht:=(Aec (p:=Gw) cs r h2 hr).1;refine U1 (q:=r) rfl ?_ a1 fun h=>a2 h.1
 show Is (c::(cs++r))=_;have hn:¬ 12<(c::cs).length:=by omega
 rw[Nh,h1,if_pos rfl];simp only[El,ht];rw[if_neg hn]
def Afe{l:List UInt8}(h:Bv l=true):∃ c cs,l=c::cs/\F1 c=true/\(∀ d∈cs,Gw d=true)/\(c::cs).length<=12/\Gc l=false:=by
 unfold Bv at h;simp only[Af,decide_eq_true_eq,I5,Bh,En]at h;obtain⟨h1,h2,h3,h4⟩:=h
 cases l with
 | nil=>simp at h1
 | cons c cs=>
  refine⟨c,cs,rfl,?_,fun d hd=>?_,h2,h3⟩
  .have:=h4 0 (by simp);unfold Nc at this;simpa[F1] using this
  .obtain⟨i,hi,rfl⟩:=List.mem_iff_getElem.1 hd;have:=h4 (i+1) (by simp;omega);unfold Nc at this;simp only[List.getD_cons_succ]at this;rw[Au,A2 hi]at this;simp only[Rm]at this;unfold Gw Jj;simp only[Ij,Af]at this ⊢;rcases this with h | ⟨-,h | h⟩
   .exact .inl h
   .exact .inr (.inr h)
   .exact .inr (.inl h)
def G5{nm r:List UInt8}(h:Bv nm=true)(hr:Jf r):B0 (nm++r)=cons [(1,nm)] (B0 r):=by
 obtain⟨c,cs,rfl,h1,h2,h3,h4⟩:=Afe h;rw[Ao8 h1 h2 h3 hr,h4];rfl
def N2:Prop:=∀ n:Int,0<=n/\n<=9223372036854775807->(∃ c cs,Bw n=c::cs/\Dw c=true/\∀ d∈cs,Dw d=true)/\Nz (Bw n)=true
def Atv{r:List UInt8}(h:Jf r):O7 r=false:=by
 cases r with
 | nil=>rfl
 | cons c r=>
  have:=h c rfl;unfold Gw Jj at this;simp only[Adn]at this;unfold O7 F1;simp only[Adn,beq_eq_false_iff_ne,ne_eq];refine⟨this.1,fun e=>?_⟩;subst e;have:=this.2.2;simp at this
def Ab2(hd:N2){n:Int}(hn:0<=n/\n<=9223372036854775807){r:List UInt8}(hr:Jf r):B0 (Bw n++r)=cons [(2,Bw n)] (B0 r):=by
 obtain⟨⟨c,cs,e,h1,h2⟩,h3⟩:=hd n hn;rw[e]at h3 ⊢;obtain⟨a1,a2,-,a4,-⟩:=Ao7 h1
 have ht:=Aec (p:=Dw) cs r h2 fun c hc=>by
  have:=hr c hc;unfold Gw Jj at this;simp only[Adn]at this;exact this.2.1
 refine U1 (q:=r) rfl ?_ a1 fun h=>a2 h.1
 show Is (c::(cs++r))=_;rw[Nh,a4,if_neg (by simp),h1,if_pos rfl,ht.2,Atv hr,if_neg (by simp)];simp only[Ee,ht.1];rw[h3,if_pos rfl]
def Vk:List UInt8:=[43,45,42,37,40,41,91,93,123,125,44,59]
def F4{c:UInt8}(h:c∈Vk)(r:List UInt8):B0 (c::r)=cons [(4,[c])] (B0 r):=by
 refine U1 (q:=r) rfl ?_ ?_ ?_
 .have hs:G9 (c::r)=1:=by
   unfold G9
   have h0:(twoS.elem ((c::r).take 2))=false:=by
    cases r with
    | nil=>
     simp only[Vk,Bi,Lk,or_false]at h
     rcases h with rfl | rfl | rfl | rfl | rfl | rfl | rfl | rfl | rfl | rfl | rfl | rfl<;>rfl
    | cons d r=>
     simp only[Tb,Zs,twoS];simp only[Vk,Bi,Lk,or_false]at h
     rcases h with rfl | rfl | rfl | rfl | rfl | rfl | rfl | rfl | rfl | rfl | rfl | rfl<;>simp
   rw[h0,Wg];simp only[Vk,Bi,Lk,or_false]at h
   rcases h with rfl | rfl | rfl | rfl | rfl | rfl | rfl | rfl | rfl | rfl | rfl | rfl<;>rfl
  have hl:F1 c=false/\Dw c=false:=by
   simp only[Vk,Bi,Lk,or_false]at h
   rcases h with rfl | rfl | rfl | rfl | rfl | rfl | rfl | rfl | rfl | rfl | rfl | rfl<;>exact⟨rfl,rfl⟩
  rw[Nh,hl.1,hl.2,hs];rfl
 .simp only[Vk,Bi,Lk,or_false]at h
  rcases h with rfl | rfl | rfl | rfl | rfl | rfl | rfl | rfl | rfl | rfl | rfl | rfl<;>decide
 .rintro⟨rfl,-⟩;revert h;decide
def Bao{op:Int}(h:6<=op/\op<=18)(r:List UInt8):B0 (By op++32::r)=cons [(4,By op)] (B0 (32::r)):=by
 have hw:op=6\/op=7\/op=8\/op=9\/op=10\/op=11\/op=12\/op=13\/op=14\/op=15\/op=16\/op=17\/op=18:=by omega
 rcases hw with rfl | rfl | rfl | rfl | rfl | rfl | rfl | rfl | rfl | rfl | rfl | rfl | rfl<;>exact U1 (q:=32::r) rfl rfl (by decide) (by simp)
def Aal(r:List UInt8):B0 (61::32::r)=cons [(4,[61])] (B0 (32::r)):=U1 (q:=32::r) rfl rfl (by decide) (by simp)
def A6o{c:UInt8}{r:List UInt8}(h:c≠61):B0 (33::c::r)=cons [(4,[33])] (B0 (c::r)):=by
 refine U1 (q:=c::r) rfl ?_ (by decide) (by simp)
 have hs:G9 (33::c::r)=1:=by
  unfold G9
  have h0:(twoS.elem ((33::c::r).take 2))=false:=by
   simp only[Tb,Zs,twoS];simp[h]
  rw[h0,Wg];rfl
 rw[Nh,hs];rfl
def Ql(l:List UInt8):Prop:=∃ c cs,l=c::cs/\c≠61
def Aff{l:List UInt8}(h:Ql l)(r:List UInt8):Ql (l++r):=by
 obtain⟨c,cs,rfl,hc⟩:=h;exact⟨c,cs++r,rfl,hc⟩
def Bap{op:Int}(h:op=4\/op=5){l:List UInt8}(hl:Ql l):B0 (By op++l)=cons [(4,By op)] (B0 l):=by
 obtain⟨c,cs,rfl,hc⟩:=hl;rcases h with rfl | rfl
 .exact F4 (by decide) _
 .exact A6o hc
def Tx(l:List UInt8)(ks:List Kt):Prop:=∀ r,Jf r->B0 (l++r)=cons ks (B0 r)
def Amy{o:Int × List UInt8}{lvl:Int}(h:Ql o.2):Ql (Dh o lvl):=by
 unfold Dh
 split
 .exact⟨40,_,rfl,by decide⟩
 .exact h
def Ag2{op:Int}{l:List UInt8}{ks:List Kt}(h:Tx l ks)(lvl:Int):Tx (Dh (op,l) lvl) (Ht (op,ks) lvl):=by
 intro r hr;unfold Dh Ht;simp only
 split
 .simp only[Bq,Br,Bf];rw[F4 (by decide),h _ (Jr _ (by decide)),F4 (by decide)];simp only[E8,Bq,Bf]
 .exact h r hr
def A6p{op:Int}(ho:6<=op/\op<=18){l1 l2:List UInt8}{k1 k2:List Kt}(h1:Tx l1 k1)(h2:Tx l2 k2):Tx (l1++32::(By op++32::l2)) (k1++(4,By op)::k2):=by
 intro r hr;simp only[Br,Bq];rw[h1 _ (Jr _ (by decide)),Er,Bao ho,Er,h2 r hr];simp only[E8,Bq,Bf]
def Baq{op:Int}(ho:op=4\/op=5){l:List UInt8}{k:List Kt}(h:Tx l k)(hl:Ql l):Tx (By op++l) ((4,By op)::k):=by
 intro r hr;rw[Br,Bap ho (Aff hl r),h r hr];simp only[E8,Bq,Bf]
def A6q{nm l:List UInt8}{k:List Kt}(hn:Bv nm=true)(h:Tx l k):Tx (nm++91::(l++[93])) ((1,nm)::(4,[91])::(k++[(4,[93])])):=by
 intro r hr;simp only[Br,Bq,Bf];rw[G5 hn (Jr _ (by decide)),F4 (by decide),h _ (Jr _ (by decide)),F4 (by decide)];simp only[E8,Bq,Bf]
def Ao9{op:Int}{z:Bool}{t:Nat}{a b:Xp}(h:6<=op/\op<=18):Xp.txt ⟨op,0,[],z,t,[a,b]⟩=Dh (a.op,a.txt) (Fu op)++32::(By op++32::Dh (b.op,b.txt) (A1 op+1)):=by
 simp only[Xp.txt,Xp.txts,Dr];rw[if_neg (by omega),if_neg (by omega)]
def Aqr{op:Int}{z:Bool}{t:Nat}{a:Xp}(h:op=4\/op=5):Xp.txt ⟨op,0,[],z,t,[a]⟩=By op++Dh (a.op,a.txt) 6/\Xp.toks ⟨op,0,[],z,t,[a]⟩=(4,By op)::Ht (a.op,a.toks) 6:=by
 simp only[Xp.txt,Xp.txts,Dr,Xp.toks,Xp.tokss,N1];rw[if_neg (by omega),if_neg (by omega),if_neg (by omega),if_neg (by omega),if_neg (by omega),if_neg (by omega)];exact⟨rfl,rfl⟩
def Apa{nm:List UInt8}(h:Bv nm=true):Ql nm:=by
 obtain⟨c,cs,rfl,h1,-⟩:=Afe h;exact⟨c,cs,rfl,(Af4 h1).2.2.1⟩
def Ab3(hd:N2){x:Xp}(h:ShE x):Tx x.txt x.toks/\Ql x.txt:=by
 induction h with
 | @num n z t hn=>
  have e1:Xp.txt ⟨1,n,[],z,t,[]⟩=Bw n:=by simp[Xp.txt,Dr]
  have e2:Xp.toks ⟨1,n,[],z,t,[]⟩=[(2,Bw n)]:=by simp[Xp.toks,N1]
  rw[e1,e2];obtain⟨⟨c,cs,e,h1,h2⟩,-⟩:=hd n hn;exact⟨fun r hr=>Ab2 hd hn hr,c,cs,e,(Ao7 h1).2.2.1⟩
 | @name nm z t hn=>
  have e1:Xp.txt ⟨2,0,nm,z,t,[]⟩=nm:=by simp[Xp.txt,Dr]
  have e2:Xp.toks ⟨2,0,nm,z,t,[]⟩=[(1,nm)]:=by simp[Xp.toks,N1]
  rw[e1,e2];exact⟨fun r hr=>G5 hn hr,Apa hn⟩
 | @idx nm z t a hn ha ih=>
  have e1:Xp.txt ⟨3,0,nm,z,t,[a]⟩=nm++91::(a.txt++[93]):=by simp[Xp.txt,Xp.txts,Dr]
  have e2:Xp.toks ⟨3,0,nm,z,t,[a]⟩=(1,nm)::(4,[91])::(a.toks++[(4,[93])]):=by simp[Xp.toks,Xp.tokss,N1]
  rw[e1,e2];exact⟨A6q hn ih.1,Aff (Apa hn) _⟩
 | @un op z t a qe ha ih=>
  obtain⟨e1,e2⟩:=Aqr (z:=z) (t:=t) (a:=a) qe;rw[e1,e2];have hh:=Amy (o:=(a.op,a.txt)) (lvl:=6) ih.2;refine⟨Baq qe (Ag2 ih.1 6) hh,?_⟩;rcases qe with rfl | rfl
  .exact⟨45,_,rfl,by decide⟩
  .exact⟨33,_,rfl,by decide⟩
 | @bin op z t a b qe ha hb iha ihb=>
  rw[Ao9 qe,Afd qe];exact⟨A6p qe (Ag2 iha.1 _) (Ag2 ihb.1 _),Aff (Amy iha.2) _⟩
