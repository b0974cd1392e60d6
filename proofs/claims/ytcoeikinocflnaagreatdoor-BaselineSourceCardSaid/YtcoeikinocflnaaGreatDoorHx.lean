/- Rows of programs: lengths, settled cells; texts of declarations. -/
import Derived.Test.YtcoeikinocflnaaGreatDoorGd
import Derived.Test.YtcoeikinocflnaaGreatDoorGf
import Derived.Lib.ParseIntB
set_option linter.all false
namespace Go.Proofs.YtcoeikinocflnaaGreatDoor.KM
open Go
theorem Aub(n:Int):(Im n).length<=24:=by
 have:=Rc n;unfold Im
 split
 ·simp
 ·simp only[Am];omega
theorem Ama{d:Dp}(h1:d.nm.length<=12)(h2:d.on.length<=12):(Eh d).length<=80:=by
 have a1:=Aub d.init;have a2:=Rc d.size
 have a3:(if d.size=0 then [] else 91::(Cm d.size++[93])).length<=23:=by
  split
  ·simp
  ·simp;omega
 unfold Eh
 split
 ·simp only[Ao,Am,Cx];omega
 split
 ·simp only[Ao,Am,Cx];omega
 split
 ·simp only[Ao,Am,Cx];omega
 split
 ·simp only[Ao,Am,Cx];omega
 split
 ·simp only[Ao,Am,Cx];omega
 ·simp only[Ao,Am,Cx];omega
theorem Agj(a:List UInt8)(l:List (List UInt8)):(D8 (a::l)).length<=a.length+2+(D8 l).length:=by
 cases l with
 | nil=>simp[D8]
 | cons b l=>simp only[D8,Ao,Am];omega
theorem Ej{v:V}(h:v.rowB=true):v.cellB=true:=by cases v<;>simp[V.rowB]at h<;>rfl
theorem Aal{v:V}(h:v.cellB=true):v.cells=[v]/\[v].all V.cellB=true:=⟨by cases v<;>simp[V.cellB]at h<;>rfl,by simp only[Au,A1,h];rfl⟩
def I7(s:List UInt8):List V:=[.str s]
theorem Akc{s s':St}{m m' e e' lo' n:Nat}{u w:V}{ys:List (List V)}(he:e≠e')(hu:u=.nils\/∃ i g cs,u=.sl i g 0 n m true/\s[i]?=some (.row cs e g 0))(h:GW s m' e' lo' w ys)(hf:∀ j,(∀ i g,u=.sl i g 0 n m true->j≠i)->j<s.length->s'[j]?=s[j]?):GW s' m' e' lo' w ys:=by
 rcases h with h | ⟨hn,j,g,rfl,ho,hlo⟩
 ·exact .inl h
 ·refine .inr ⟨hn,j,g,rfl,?_,hlo⟩;rw[hf j ?_ (Ar.1 ho).1]
  ·exact ho
  ·rintro i g' rfl rfl;rcases hu with hu | ⟨i,g2,cs,hu,hs⟩
   ·cases hu
   ·cases hu;rw[hs]at ho;cases ho;exact he rfl
theorem Akd{s:St}{m e lo:Nat}{u:V}{xs:List (List V)}(h:GW s m e lo u xs):u=.nils\/∃ i g cs,u=.sl i g 0 xs.length m true/\s[i]?=some (.row cs e g 0):=by
 rcases h with⟨h,-⟩ | ⟨-,i,g,h,ho,-⟩
 ·exact .inl h
 ·exact .inr ⟨i,g,_,h,ho⟩
theorem Pg(z:Bool)(t:Nat)(xs:List (List V)):(SL z t xs).rowB=true:=by
 unfold SL
 split<;>rfl
theorem Ahl(x:Tp):x.row.all V.rowB=true:=by
 unfold Tp.row;simp only[Au,A1,Pg];rfl
theorem W2(D:List Dp):∀ r∈D.map Dp.row,r.length=6:=by intro r hr;obtain⟨x,-,rfl⟩:=D6.1 hr;rfl
theorem Aax(D:List Dp):∀ r∈D.map Dp.row,r.all V.rowB=true:=by intro r hr;obtain⟨x,-,rfl⟩:=D6.1 hr;rfl
theorem Tq(D:List Tp):∀ r∈D.map Tp.row,r.length=4:=by intro r hr;obtain⟨x,-,rfl⟩:=D6.1 hr;rfl
theorem Aay(D:List Tp):∀ r∈D.map Tp.row,r.all V.rowB=true:=by intro r hr;obtain⟨x,-,rfl⟩:=D6.1 hr;exact Ahl x
structure Tk where
 kind:Int
 text:List UInt8
 line:Int
def Tk.row(t:Tk):List V:=[.int .i64 t.kind,.str t.text,.int .i64 t.line]
def Tk.zero:Tk:=⟨0,[],0⟩
def G8(c:UInt8):Bool:=I6 c.toNat
def Ei(c:UInt8):Bool:=Om c.toNat
def Le(c:UInt8):Bool:=J0 c.toNat
def twoS:List (List UInt8):=[[124,124],[38,38],[61,61],[33,61],[60,61],[62,61]]
def oneS:List UInt8:=[60,62,43,45,42,47,37,33,61,40,41,91,93,123,125,44,59]
def greatS:List UInt8:=[57,50,50,51,51,55,50,48,51,54,56,53,52,55,55,53,56,48,55]
def H1(l:List UInt8):Nat:=
 if decide (2<=l.length)&&twoS.elem (l.take 2) then 2 else
 match l with
 | c::_=>if oneS.elem c then 1 else 0
 | []=>0
def Mz(w:List UInt8):Bool:=
 let d:=w.dropWhile (·==48)
 !(decide (19<d.length)||(decide (d.length=19)&&Op.bytesLess greatS d))
def D4(c:UInt8)(r:List UInt8):List UInt8:=c::r.takeWhile Le
def Du(c:UInt8)(r:List UInt8):List UInt8:=c::r.takeWhile Ei
def Pt:List UInt8->Bool
 | d::_=>G8 d||d==95
 | []=>false
def Jq:List UInt8->Option (Int × List UInt8)
 | []=>none
 | c::r=>
  if G8 c then(if 12<(D4 c r).length then none else some (if F9 (D4 c r) then 3 else 1,D4 c r))
  else if Ei c then(if Pt (r.dropWhile Ei) then none else if Mz (Du c r) then some (2,Du c r) else none)
  else if H1 (c::r)=0 then none else some (4,(c::r).take (H1 (c::r)))
def Dn:Nat->Int->List UInt8->Option (List Tk)
 | _,_,[]=>some []
 | 0,_,_::_=>none
 | n+1,ln,c::r=>
  if c=10 then Dn n (ln+1) r
  else if c=32\/c=9\/c=13 then Dn n ln r
  else if c=47/\r.head?=some 47 then Dn n ln ((c::r).dropWhile (· != 10))
  else match Jq (c::r) with
  | none=>none
  | some (k,w)=>(Dn n ln ((c::r).drop w.length)).map fun l=>⟨k,w,ln⟩::l
/-! expressions -/
def As(s:List UInt8):List Tk->Bool
 | t::_=>(t.kind==3||t.kind==4)&&t.text==s
 | []=>false
def opTab:List (List UInt8 × Int × Int):=[([124,124],18,1),([38,38],17,2),([61,61],11,3),([33,61],12,3),([60],13,3),([60,61],14,3),([62],15,3),([62,61],16,3),([43],6,4),([45],7,4),([42],8,5),([47],9,5),([37],10,5)]
def G9(s:List UInt8):Int × Int:=(opTab.lookup s).getD (0,0)
def F8(lvl:Nat):List Tk->Int
 | t::_=>if t.kind=4 then(if(G9 t.text).2=(lvl:Int) then(G9 t.text).1 else 0) else 0
 | []=>0
def Hm(w:List UInt8):Int:=
 match Lib.parseIntB 64 w with
 | .ok v=>v
 | _=>0
def I8(op:Int)(x y:Xp):Xp:=⟨op,0,[],true,1,[x,y]⟩
def Mc(op:Int)(x:Xp):Xp:=⟨op,0,[],true,1,[x]⟩
mutual
def pe:Nat->Nat->List Tk->Option (Xp × List Tk)
 | 0,_,_=>none
 | n+1,lvl,ts=>if 5<lvl then pu n ts else
  match pe n (lvl+1) ts with
  | none=>none
  | some (x,r)=>lp n lvl x r
def lp:Nat->Nat->Xp->List Tk->Option (Xp × List Tk)
 | 0,_,_,_=>none
 | n+1,lvl,x,ts=>if F8 lvl ts=0 then some (x,ts) else
  match pe n (lvl+1) ts.tail with
  | none=>none
  | some (y,r)=>if lvl=3 then some (I8 (F8 lvl ts) x y,r) else lp n lvl (I8 (F8 lvl ts) x y) r
def pu:Nat->List Tk->Option (Xp × List Tk)
 | 0,_=>none
 | n+1,ts=>if As [45] ts then(match pu n ts.tail with
   | none=>none
   | some (x,r)=>some (Mc 4 x,r))
  else if As [33] ts then(match pu n ts.tail with
   | none=>none
   | some (x,r)=>some (Mc 5 x,r))
  else pp n ts
def pp:Nat->List Tk->Option (Xp × List Tk)
 | 0,_=>none
 | _+1,[]=>none
 | n+1,t::ts=>if t.kind=2 then some (⟨1,Hm t.text,[],true,0,[]⟩,ts)
  else if t.kind=1 then
   (if As [91] ts then(match pe n 1 ts.tail with
    | none=>none
    | some (x,r)=>if As [93] r then some (⟨3,0,t.text,true,1,[x]⟩,r.tail) else none)
   else some (⟨2,0,t.text,true,0,[]⟩,ts))
  else if As [40] (t::ts) then(match pe n 1 ts with
   | none=>none
   | some (x,r)=>if As [41] r then some (x,r.tail) else none)
  else none
end
/-! statements -/
def wordTab:List (List UInt8 × Int):=[([105,102],2),([119,104,105,108,101],3),([108,111,99,107],4),([114,101,97,100],5),([119,114,105,116,101],6),([116,114,97,110,115,97,99,116,105,111,110],7),([97,116,111,109,105,99],8),([119,97,105,116],9),([110,111,116,105,102,121],10),([110,111,116,105,102,121,97,108,108],11),([115,112,97,119,110],12),([106,111,105,110],13),([115,101,116],14),([103,101,116],15)]
def Dq(s:List UInt8):Int:=(wordTab.lookup s).getD 0
def Cy:List Tk->Option (List UInt8 × List Tk)
 | t::ts=>if t.kind=1 then some (t.text,ts) else none
 | []=>none
def Fy:List Tk->Option (Int × List Tk)
 | t::ts=>if t.kind=2 then some (Hm t.text,ts) else none
 | []=>none
def Df(s:List UInt8)(ts:List Tk):Option (List Tk):=if As s ts then some ts.tail else none
def Al(op line:Int):Sp:=⟨op,line,[],[],true,0,[],Xp.zero,true,0,[],true,0,[]⟩
def Aeb(n:Nat)(ts:List Tk):Option (List Xp × List Tk):=
 if As [91] ts then
  match pe n 1 ts.tail with
  | none=>none
  | some (x,r)=>(Df [93] r).map fun r=>([x],r)
 else some ([],ts)
def P4(n:Nat)(line:Int)(ts:List Tk):Option (Sp × List Tk):=
 match Cy ts with
 | none=>none
 | some (nm,ts)=>
  match Aeb n ts with
  | none=>none
  | some (ix,ts)=>
   match Df [61] ts with
   | none=>none
   | some ts=>
    match pe n 1 ts with
    | none=>none
    | some (x,ts)=>(Df [59] ts).map fun ts=>({ Al 1 line with nm:=nm,it:=ix.length,idx:=ix,ex:=x },ts)
mutual
def Gn:Nat->List Tk->Option (Sp × List Tk)
 | 0,_=>none
 | _+1,[]=>none
 | n+1,t::ts=>
  if t.kind=1 then P4 n t.line (t::ts)
  else if t.kind=3 then
   (if Dq t.text=0 then none
   else if Dq t.text=2\/Dq t.text=3 then
    (match pe n 1 ts with
    | none=>none
    | some (x,ts)=>
     match Eb n ts with
     | none=>none
     | some (b,ts)=>
      if Dq t.text=2/\As [101,108,115,101] ts=true then
       (match Eb n ts.tail with
       | none=>none
       | some (e,ts)=>some ({ Al (Dq t.text) t.line with ex:=x,body:=b,els:=e },ts))
      else some ({ Al (Dq t.text) t.line with ex:=x,body:=b },ts))
   else if Dq t.text=7\/Dq t.text=8 then
    (match Eb n ts with
    | none=>none
    | some (b,ts)=>some ({ Al (Dq t.text) t.line with body:=b },ts))
   else
    (match Cy ts with
    | none=>none
    | some (nm,ts)=>
     if Dq t.text=4\/Dq t.text=5\/Dq t.text=6 then
      (match Eb n ts with
      | none=>none
      | some (b,ts)=>some ({ Al (Dq t.text) t.line with nm:=nm,body:=b },ts))
     else if Dq t.text=14 then
      (match pe n 1 ts with
      | none=>none
      | some (x,ts)=>(Df [59] ts).map fun ts=>({ Al (Dq t.text) t.line with nm:=nm,ex:=x },ts))
     else if Dq t.text=15 then
      (match Cy ts with
      | none=>none
      | some (ar,ts)=>(Df [59] ts).map fun ts=>({ Al (Dq t.text) t.line with nm:=nm,arg:=ar },ts))
     else(Df [59] ts).map fun ts=>({ Al (Dq t.text) t.line with nm:=nm },ts)))
  else none
def Eb:Nat->List Tk->Option (List Sp × List Tk)
 | 0,_=>none
 | n+1,ts=>if As [123] ts then H7 n ts.tail else none
def H7:Nat->List Tk->Option (List Sp × List Tk)
 | 0,_=>none
 | n+1,ts=>if As [125] ts then some ([],ts.tail) else
  match Gn n ts with
  | none=>none
  | some (s,r)=>
   match H7 n r with
   | none=>none
   | some (l,r)=>some (s::l,r)
end
/-! declarations, threads, programs -/
def declTab:List (List UInt8 × Int):=[([118,97,114],1),([118,111,108,97,116,105,108,101],2),([109,117,116,101,120],3),([114,119,108,111,99,107],4),([99,111,110,100],5),([102,117,116,117,114,101],6)]
def Fw(s:List UInt8):Int:=(declTab.lookup s).getD 0
def R6(ts:List Tk):Option (Int × List Tk):=
 if As [91] ts then
  match Fy ts.tail with
  | none=>none
  | some (n,r)=>if n=0 then none else(Df [93] r).map fun r=>(n,r)
 else some (0,ts)
def N5(ts:List Tk):Option (Int × List Tk):=
 if As [61] ts then
  if As [45] ts.tail then(Fy ts.tail.tail).map fun p=>(-p.1,p.2) else Fy ts.tail
 else some (0,ts)
def Pu:List Tk->Option (Dp × List Tk)
 | []=>none
 | t::ts=>
  match Cy ts with
  | none=>none
  | some (nm,ts)=>
   if Fw t.text=1 then
    (match R6 ts with
    | none=>none
    | some (sz,ts)=>
       match N5 ts with
       | none=>none
       | some (i,ts)=>(Df [59] ts).map fun ts=>(⟨1,t.line,nm,sz,i,[]⟩,ts))
   else if Fw t.text=2 then
    (match N5 ts with
    | none=>none
    | some (i,ts)=>(Df [59] ts).map fun ts=>(⟨2,t.line,nm,0,i,[]⟩,ts))
   else if Fw t.text=5 then
    (match Cy ts with
    | none=>none
    | some (on,ts)=>(Df [59] ts).map fun ts=>(⟨5,t.line,nm,0,0,on⟩,ts))
   else(Df [59] ts).map fun ts=>(⟨Fw t.text,t.line,nm,0,0,[]⟩,ts)
def Nw:List Tk->Bool
 | t::_=>t.kind==3&&Fw t.text != 0
 | []=>false
def I2:Nat->List Tk->Option (List Dp × List Tk)
 | 0,_=>none
 | n+1,ts=>if Nw ts then
   (match Pu ts with
   | none=>none
   | some (d,r)=>
    match I2 n r with
    | none=>none
    | some (l,r)=>some (d::l,r))
  else some ([],ts)
def I9:Nat->List Tk->Option (List (List UInt8) × List Tk)
 | 0,_=>none
 | n+1,ts=>
  match Cy ts with
  | none=>none
  | some (nm,ts)=>
   if As [44] ts then
    (match I9 n ts.tail with
    | none=>none
    | some (l,r)=>some (nm::l,r))
   else(Df [41] ts).map fun ts=>([nm],ts)
def Ada(n:Nat)(ts:List Tk):Option (List (List UInt8) × List Tk):=if As [41] ts then some ([],ts.tail) else I9 n ts
def P5(n:Nat):List Tk->Option (Tp × List Tk)
 | []=>none
 | t::ts=>
  match Cy ts with
  | none=>none
  | some (nm,ts)=>
   match Df [40] ts with
   | none=>none
   | some ts=>
    match Ada n ts with
    | none=>none
    | some (l,ts)=>
       match Eb n ts with
       | none=>none
       | some (b,ts)=>some (⟨nm,t.line,true,0,l,true,0,b⟩,ts)
def Zb:List UInt8:=[116,104,114,101,97,100]
def I4(m:Nat):Nat->List Tk->Option (List Tp × List Tk)
 | 0,_=>none
 | n+1,ts=>if As Zb ts then
   (match P5 m ts with
   | none=>none
   | some (t,r)=>
    match I4 m n r with
    | none=>none
    | some (l,r)=>some (t::l,r))
  else some ([],ts)
def Jt(k:Nat):Nat:=10*k+20
def Va(ts:List Tk):Option (Gp × List Tk):=
 match I2 (ts.length+1) ts with
 | none=>none
 | some (ds,r)=>
  match I4 (Jt ts.length) (ts.length+1) r with
  | none=>none
  | some (l,r)=>if l.isEmpty then none else some (⟨true,0,ds,true,0,l⟩,r)
def Rk(s:List UInt8):Option Gp:=
 if 4096<s.length then none else
 match Dn s.length 1 s with
 | none=>none
 | some ts=>
  match Va ts with
  | some (p,[])=>some p
  | _=>none
/-! the rows' flags say nothing -/
mutual
def Yx:Xp->Xp->Bool
 | ⟨op,n,nm,_,_,l⟩,⟨op',n',nm',_,_,l'⟩=>op==op'&&(n==n'&&(nm==nm'&&Pk l l'))
def Pk:List Xp->List Xp->Bool
 | [],[]=>true
 | x::l,y::l'=>Yx x y&&Pk l l'
 | [],_::_=>false
 | _::_,[]=>false
end
abbrev Kt:=Int × List UInt8
def Tk.kt(t:Tk):Kt:=(t.kind,t.text)
def Zc(o:Int × List Kt)(level:Int):List Kt:=if Bj o.1<level then(4,[40])::(o.2++[(4,[41])]) else o.2
def All(op n:Int)(nm:List UInt8)(ts:List (Int × List Kt)):List Kt:=
 if op=1 then [(2,Cm n)] else if op=2 then [(1,nm)] else
 match ts with
 | [a]=>if op=3 then(1,nm)::(4,[91])::(a.2++[(4,[93])]) else(4,Cd op)::Zc a 6
 | [a,b]=>Zc a (F6 op)++(4,Cd op)::Zc b (Bj op+1)
 | _=>[]
mutual
def Xp.toks:Xp->List Kt
 | ⟨op,n,nm,_,_,l⟩=>All op n nm (Xp.tokss l)
def Xp.tokss:List Xp->List (Int × List Kt)
 | []=>[]
 | x::l=>(x.op,x.toks)::Xp.tokss l
end
inductive ShE:Xp->Prop
 | num {n:Int} {z:Bool} {t:Nat}:0<=n/\n<=9223372036854775807->ShE ⟨1,n,[],z,t,[]⟩
 | name {nm:List UInt8} {z:Bool} {t:Nat}:Bv nm=true->ShE ⟨2,0,nm,z,t,[]⟩
 | idx {nm:List UInt8} {z:Bool} {t:Nat} {a:Xp}:Bv nm=true->ShE a->ShE ⟨3,0,nm,z,t,[a]⟩
 | un {op:Int} {z:Bool} {t:Nat} {a:Xp}:op=4\/op=5->ShE a->ShE ⟨op,0,[],z,t,[a]⟩
 | bin {op:Int} {z:Bool} {t:Nat} {a b:Xp}:6<=op/\op<=18->ShE a->ShE b->ShE ⟨op,0,[],z,t,[a,b]⟩
theorem Aqt:((List.range 18).all fun i=>decide ((Cd ((i:Int)+1)).length<=2/\1<=Bj ((i:Int)+1)/\Bj ((i:Int)+1)<=7))=true:=by decide
theorem Auc{op:Int}(h:1<=op/\op<=18):∃ i:Nat,i<18/\op=(i:Int)+1:=⟨(op - 1).toNat,by omega,by omega⟩
theorem Ai7{op:Int}(h:1<=op/\op<=18):(Cd op).length<=2/\1<=Bj op/\Bj op<=7:=by
 obtain⟨i,hi,rfl⟩:=Auc h;exact of_decide_eq_true (Bd.1 Aqt i (Fc.2 hi))
theorem Ake{x:Xp}(h:ShE x):Cn x:=by
 induction h with
 | num h=>exact .num (by omega)
 | name _=>exact .name
 | idx _ _ ih=>exact .idx ih
 | un h _ ih=>exact .un h ih
 | bin h _ _ ih1 ih2=>exact .bin h ih1 ih2
/-! what a shaped program has -/
def Akf(x:Xp):Prop:=x.op=0/\x.n=0/\x.nm=[]/\x.l=[]
def E5(op:Int):Bool:=op==2||(op==3||(op==7||op==8))
def Dl(op:Int):Bool:=op==1||(op==2||(op==3||op==14))
inductive ShS:Sp->Prop
 | mk {s:Sp}:1<=s.op/\s.op<=15->(E5 s.op=true->s.nm=[])->(E5 s.op=false->Bv s.nm=true)->(s.op=15->Bv s.arg=true)->(s.op≠15->s.arg=[]) ->
   s.idx.length<=1->(s.op≠1->s.idx=[])->(∀ x∈s.idx,ShE x)->(Dl s.op=true->ShE s.ex)->(Dl s.op=false->Akf s.ex) ->
   (Bq s.op=false->s.body=[])->(s.op≠2->s.els=[])->(∀ x∈s.body,ShS x)->(∀ x∈s.els,ShS x)->ShS s
structure ShD (d:Dp):Prop where
 kind:1<=d.kind/\d.kind<=6
 nm:Bv d.nm=true
 size:0<=d.size/\d.size<=9223372036854775807/\(d.kind≠1->d.size=0)
 init : -9223372036854775808<d.init/\d.init<=9223372036854775807/\(d.kind≠1->d.kind≠2->d.init=0)
 on:(d.kind=5->Bv d.on=true)/\(d.kind≠5->d.on=[])
structure ShG (p:Gp):Prop where
 decls:∀ d∈p.decls,ShD d
 nms:∀ t∈p.thrs,Bv t.nm=true
 locs:∀ t∈p.thrs,∀ s∈t.locals,Bv s=true
 thrs:∀ t∈p.thrs,∀ s∈t.body,ShS s
 some:p.thrs≠[]
theorem Ach{s:Sp}(h:ShS s):CnS s:=by
 induction h with
 | mk h1 h2 h3 h4 h5 h6 h7 h8 h9 h10 h11 h12 h13 h14 ih1 ih2=>
  refine .mk h1 h6 h7 (fun x hx=>Ake (h8 x hx)) (fun hv=>Ake (h9 ?_)) h11 h12 ih1 ih2
  rcases hv with h | h | h | h<;>rw[h]<;>rfl
theorem Axz{p:Gp}(h:ShG p):CnG p:=⟨fun d hd=>let h:=h.decls d hd;⟨h.kind,h.size,by have:=h.init;omega,by have:=h.init;omega,h.init.2.2⟩,fun t ht s hs=>Ach (h.thrs t ht s hs)⟩
/-! equal apart from lines -/
mutual
def Adb:Sp->Sp->Bool
 | ⟨op,_,nm,arg,_,_,idx,ex,_,_,body,_,_,els⟩,⟨op',_,nm',arg',_,_,idx',ex',_,_,body',_,_,els'⟩=>op==op'&&(nm==nm'&&(arg==arg'&&(Yx ex ex'&&(Pk idx idx'&&(Ux body body'&&Ux els els')))))
def Ux:List Sp->List Sp->Bool
 | [],[]=>true
 | x::l,y::l'=>Adb x y&&Ux l l'
 | [],_::_=>false
 | _::_,[]=>false
end
/-! tokens -/
def A21(l:List Xp):List Kt:=match l with
 | a::_=>(4,[91])::(a.toks++[(4,[93])])
 | []=>[]
def A1m(s:Sp):List Kt:=
 if s.op=1 then(1,s.nm)::(A21 s.idx++(4,[61])::s.ex.toks)
 else if s.op=2\/s.op=3 then(3,Cu s.op)::s.ex.toks
 else if s.op=7\/s.op=8 then [(3,Cu s.op)]
 else if s.op=14 then(3,Cu s.op)::(1,s.nm)::s.ex.toks
 else if s.op=15 then [(3,Cu s.op),(1,s.nm),(1,s.arg)]
 else [(3,Cu s.op),(1,s.nm)]
def A1n:List UInt8:=[101,108,115,101]
mutual
def Sp.toks:Sp->List Kt
 | ⟨op,line,nm,arg,iz,it,idx,ex,bz,bt,body,ez,et,els⟩=>
  A1m ⟨op,line,nm,arg,iz,it,idx,ex,bz,bt,body,ez,et,els⟩ ++
   if Bq op then(4,[123])::(Sp.tokss body++(4,[125])::(if els.isEmpty then [] else(3,A1n)::(4,[123])::(Sp.tokss els++[(4,[125])]))) else [(4,[59])]
def Sp.tokss:List Sp->List Kt
 | []=>[]
 | x::l=>x.toks++Sp.tokss l
end
