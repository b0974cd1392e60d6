/- Rows of programs: lengths, settled cells; texts of declarations. -/
import Derived.Test.YtlehfgdhebapeaaGreatDoorGd
import Derived.Test.YtlehfgdhebapeaaGreatDoorGf
import Derived.Test.YtlehfgdhebapeaaGreatDoorGa
import Derived.Test.YtlehfgdhebapeaaGreatDoorNa
import Derived.Lib.ParseIntB
set_option linter.all false
namespace Go.Proofs.YtlehfgdhebapeaaGreatDoor.KM
open Go
theorem Aru(n:Int):(Dl n).length<=24:=by
 have:=L5 n
 unfold Dl
 split
 ·simp
 ·simp only[Ag];omega
theorem Akj{d:Dp}(h1:d.nm.length<=12)(h2:d.on.length<=12):(Bq d).length<=80:=by
 have a1:=Aru d.init
 have a2:=L5 d.size
 have a3:(if d.size=0 then [] else 91::(A4 d.size++[93])).length<=23:=by
  split
  ·simp
  ·simp;omega
 unfold Bq
 split
 ·simp only[Al,Ag,Br];omega
 split
 ·simp only[Al,Ag,Br];omega
 split
 ·simp only[Al,Ag,Br];omega
 split
 ·simp only[Al,Ag,Br];omega
 split
 ·simp only[Al,Ag,Br];omega
 ·simp only[Al,Ag,Br];omega
theorem Afa(a:List UInt8)(l:List (List UInt8)):(Ca (a::l)).length<=a.length+2+(Ca l).length:=by
 cases l with
 | nil=>simp[Ca]
 | cons b l=>simp only[Ca,Al,Ag];omega
theorem D9{v:V}(h:v.rowB=true):v.cellB=true:=by cases v<;>simp[V.rowB]at h<;>rfl
theorem Ou{v:V}(h:v.cellB=true):v.cells=[v]/\[v].all V.cellB=true:=⟨by cases v<;>simp[V.cellB]at h<;>rfl,by simp only[Ar,A3,h];rfl⟩
def Ez(s:List UInt8):List V:=[.str s]
theorem Xi{s s':St}{m m' e e' lo' n:Nat}{u w:V}{ys:List (List V)}(he:e≠e')(hu:u=.nils\/∃ i g cs,u=.sl i g 0 n m true/\s[i]?=some (.row cs e g 0))(h:GW s m' e' lo' w ys)(hf:∀ j,(∀ i g,u=.sl i g 0 n m true->j≠i)->j<s.length->s'[j]?=s[j]?):GW s' m' e' lo' w ys:=by
 rcases h with h | ⟨hn,j,g,rfl,ho,hlo⟩
 ·exact .inl h
 ·refine .inr ⟨hn,j,g,rfl,?_,hlo⟩
  rw[hf j ?_ (Ay.1 ho).1]
  ·exact ho
  ·rintro i g' rfl rfl
   rcases hu with hu | ⟨i,g2,cs,hu,hs⟩
   ·cases hu
   ·cases hu
    rw[hs]at ho
    cases ho
    exact he rfl
theorem Xj{s:St}{m e lo:Nat}{u:V}{xs:List (List V)}(h:GW s m e lo u xs):u=.nils\/∃ i g cs,u=.sl i g 0 xs.length m true/\s[i]?=some (.row cs e g 0):=by
 rcases h with⟨h,-⟩ | ⟨-,i,g,h,ho,-⟩
 ·exact .inl h
 ·exact .inr ⟨i,g,_,h,ho⟩
theorem Jk(z:Bool)(t:Nat)(xs:List (List V)):(SL z t xs).rowB=true:=by
 unfold SL
 split<;>rfl
theorem Agd(x:Tp):x.row.all V.rowB=true:=by
 unfold Tp.row
 simp only[Ar,A3,Jk]
 rfl
theorem S9(D:List Dp):∀ r∈D.map Dp.row,r.length=6:=by intro r hr;obtain⟨x,-,rfl⟩:=E4.1 hr;rfl
theorem Afb(D:List Dp):∀ r∈D.map Dp.row,r.all V.rowB=true:=by intro r hr;obtain⟨x,-,rfl⟩:=E4.1 hr;rfl
theorem V3(D:List Tp):∀ r∈D.map Tp.row,r.length=4:=by intro r hr;obtain⟨x,-,rfl⟩:=E4.1 hr;rfl
theorem Afc(D:List Tp):∀ r∈D.map Tp.row,r.all V.rowB=true:=by intro r hr;obtain⟨x,-,rfl⟩:=E4.1 hr;exact Agd x
structure Tk where
 kind:Int
 text:List UInt8
 line:Int
def Tk.row(t:Tk):List V:=[.int .i64 t.kind,.str t.text,.int .i64 t.line]
def Tk.zero:Tk:=⟨0,[],0⟩
def E7(c:UInt8):Bool:=Po c.toNat
def C4(c:UInt8):Bool:=Og c.toNat
def Fx(c:UInt8):Bool:=Oh c.toNat
def twoS:List (List UInt8):=[[124,124],[38,38],[61,61],[33,61],[60,61],[62,61]]
def oneS:List UInt8:=[60,62,43,45,42,47,37,33,61,40,41,91,93,123,125,44,59]
def greatS:List UInt8:=[57,50,50,51,51,55,50,48,51,54,56,53,52,55,55,53,56,48,55]
def F1(l:List UInt8):Nat:=
 if decide (2<=l.length)&&twoS.elem (l.take 2) then 2 else
 match l with
 | c::_=>if oneS.elem c then 1 else 0
 | []=>0
def Le(w:List UInt8):Bool:=
 let d:=w.dropWhile (·==48)
 !(decide (19<d.length)||(decide (d.length=19)&&Op.bytesLess greatS d))
def Dq(c:UInt8)(r:List UInt8):List UInt8:=c::r.takeWhile Fx
def De(c:UInt8)(r:List UInt8):List UInt8:=c::r.takeWhile C4
def Me:List UInt8->Bool
 | d::_=>E7 d||d==95
 | []=>false
def G6:List UInt8->Option (Int × List UInt8)
 | []=>none
 | c::r=>
  if E7 c then(if 12<(Dq c r).length then none else some (if G0 (Dq c r) then 3 else 1,Dq c r))
  else if C4 c then(if Me (r.dropWhile C4) then none else if Le (De c r) then some (2,De c r) else none)
  else if F1 (c::r)=0 then none else some (4,(c::r).take (F1 (c::r)))
def B7:Nat->Int->List UInt8->Option (List Tk)
 | _,_,[]=>some []
 | 0,_,_::_=>none
 | n+1,ln,c::r=>
  if c=10 then B7 n (ln+1) r
  else if c=32\/c=9\/c=13 then B7 n ln r
  else if c=47/\r.head?=some 47 then B7 n ln ((c::r).dropWhile (· != 10))
  else match G6 (c::r) with
  | none=>none
  | some (k,w)=>(B7 n ln ((c::r).drop w.length)).map fun l=>⟨k,w,ln⟩::l
/-! expressions -/
def Ak(s:List UInt8):List Tk->Bool
 | t::_=>(t.kind==3||t.kind==4)&&t.text==s
 | []=>false
def opTab:List (List UInt8 × Int × Int):=[([124,124],18,1),([38,38],17,2),([61,61],11,3),([33,61],12,3),([60],13,3),([60,61],14,3),([62],15,3),([62,61],16,3),([43],6,4),([45],7,4),([42],8,5),([47],9,5),([37],10,5)]
def E0(s:List UInt8):Int × Int:=(opTab.lookup s).getD (0,0)
def Fp(lvl:Nat):List Tk->Int
 | t::_=>if t.kind=4 then(if(E0 t.text).2=(lvl:Int) then(E0 t.text).1 else 0) else 0
 | []=>0
def Gx(w:List UInt8):Int:=
 match Lib.parseIntB 64 w with
 | .ok v=>v
 | _=>0
def Gy(op:Int)(x y:Xp):Xp:=⟨op,0,[],true,1,[x,y]⟩
def Jd(op:Int)(x:Xp):Xp:=⟨op,0,[],true,1,[x]⟩
mutual
def pe:Nat->Nat->List Tk->Option (Xp × List Tk)
 | 0,_,_=>none
 | n+1,lvl,ts=>if 5<lvl then pu n ts else
  match pe n (lvl+1) ts with
  | none=>none
  | some (x,r)=>lp n lvl x r
def lp:Nat->Nat->Xp->List Tk->Option (Xp × List Tk)
 | 0,_,_,_=>none
 | n+1,lvl,x,ts=>if Fp lvl ts=0 then some (x,ts) else
  match pe n (lvl+1) ts.tail with
  | none=>none
  | some (y,r)=>if lvl=3 then some (Gy (Fp lvl ts) x y,r) else lp n lvl (Gy (Fp lvl ts) x y) r
def pu:Nat->List Tk->Option (Xp × List Tk)
 | 0,_=>none
 | n+1,ts=>if Ak [45] ts then(match pu n ts.tail with
   | none=>none
   | some (x,r)=>some (Jd 4 x,r))
  else if Ak [33] ts then(match pu n ts.tail with
   | none=>none
   | some (x,r)=>some (Jd 5 x,r))
  else pp n ts
def pp:Nat->List Tk->Option (Xp × List Tk)
 | 0,_=>none
 | _+1,[]=>none
 | n+1,t::ts=>if t.kind=2 then some (⟨1,Gx t.text,[],true,0,[]⟩,ts)
  else if t.kind=1 then
   (if Ak [91] ts then(match pe n 1 ts.tail with
    | none=>none
    | some (x,r)=>if Ak [93] r then some (⟨3,0,t.text,true,1,[x]⟩,r.tail) else none)
   else some (⟨2,0,t.text,true,0,[]⟩,ts))
  else if Ak [40] (t::ts) then(match pe n 1 ts with
   | none=>none
   | some (x,r)=>if Ak [41] r then some (x,r.tail) else none)
  else none
end
/-! statements -/
def wordTab:List (List UInt8 × Int):=[([105,102],2),([119,104,105,108,101],3),([108,111,99,107],4),([114,101,97,100],5),([119,114,105,116,101],6),([116,114,97,110,115,97,99,116,105,111,110],7),([97,116,111,109,105,99],8),([119,97,105,116],9),([110,111,116,105,102,121],10),([110,111,116,105,102,121,97,108,108],11),([115,112,97,119,110],12),([106,111,105,110],13),([115,101,116],14),([103,101,116],15)]
def C7(s:List UInt8):Int:=(wordTab.lookup s).getD 0
def B8:List Tk->Option (List UInt8 × List Tk)
 | t::ts=>if t.kind=1 then some (t.text,ts) else none
 | []=>none
def Fg:List Tk->Option (Int × List Tk)
 | t::ts=>if t.kind=2 then some (Gx t.text,ts) else none
 | []=>none
def Ct(s:List UInt8)(ts:List Tk):Option (List Tk):=if Ak s ts then some ts.tail else none
def Aj(op line:Int):Sp:=⟨op,line,[],[],true,0,[],Xp.zero,true,0,[],true,0,[]⟩
def Ux(n:Nat)(ts:List Tk):Option (List Xp × List Tk):=
 if Ak [91] ts then
  match pe n 1 ts.tail with
  | none=>none
  | some (x,r)=>(Ct [93] r).map fun r=>([x],r)
 else some ([],ts)
def Mk(n:Nat)(line:Int)(ts:List Tk):Option (Sp × List Tk):=
 match B8 ts with
 | none=>none
 | some (nm,ts)=>
  match Ux n ts with
  | none=>none
  | some (ix,ts)=>
   match Ct [61] ts with
   | none=>none
   | some ts=>
    match pe n 1 ts with
    | none=>none
    | some (x,ts)=>(Ct [59] ts).map fun ts=>({ Aj 1 line with nm:=nm,it:=ix.length,idx:=ix,ex:=x },ts)
mutual
def Ei:Nat->List Tk->Option (Sp × List Tk)
 | 0,_=>none
 | _+1,[]=>none
 | n+1,t::ts=>
  if t.kind=1 then Mk n t.line (t::ts)
  else if t.kind=3 then
   (if C7 t.text=0 then none
   else if C7 t.text=2\/C7 t.text=3 then
    (match pe n 1 ts with
    | none=>none
    | some (x,ts)=>
     match Dy n ts with
     | none=>none
     | some (b,ts)=>
      if C7 t.text=2/\Ak [101,108,115,101] ts=true then
       (match Dy n ts.tail with
       | none=>none
       | some (e,ts)=>some ({ Aj (C7 t.text) t.line with ex:=x,body:=b,els:=e },ts))
      else some ({ Aj (C7 t.text) t.line with ex:=x,body:=b },ts))
   else if C7 t.text=7\/C7 t.text=8 then
    (match Dy n ts with
    | none=>none
    | some (b,ts)=>some ({ Aj (C7 t.text) t.line with body:=b },ts))
   else
    (match B8 ts with
    | none=>none
    | some (nm,ts)=>
     if C7 t.text=4\/C7 t.text=5\/C7 t.text=6 then
      (match Dy n ts with
      | none=>none
      | some (b,ts)=>some ({ Aj (C7 t.text) t.line with nm:=nm,body:=b },ts))
     else if C7 t.text=14 then
      (match pe n 1 ts with
      | none=>none
      | some (x,ts)=>(Ct [59] ts).map fun ts=>({ Aj (C7 t.text) t.line with nm:=nm,ex:=x },ts))
     else if C7 t.text=15 then
      (match B8 ts with
      | none=>none
      | some (ar,ts)=>(Ct [59] ts).map fun ts=>({ Aj (C7 t.text) t.line with nm:=nm,arg:=ar },ts))
     else(Ct [59] ts).map fun ts=>({ Aj (C7 t.text) t.line with nm:=nm },ts)))
  else none
def Dy:Nat->List Tk->Option (List Sp × List Tk)
 | 0,_=>none
 | n+1,ts=>if Ak [123] ts then Gm n ts.tail else none
def Gm:Nat->List Tk->Option (List Sp × List Tk)
 | 0,_=>none
 | n+1,ts=>if Ak [125] ts then some ([],ts.tail) else
  match Ei n ts with
  | none=>none
  | some (s,r)=>
   match Gm n r with
   | none=>none
   | some (l,r)=>some (s::l,r)
end
/-! declarations, threads, programs -/
def declTab:List (List UInt8 × Int):=[([118,97,114],1),([118,111,108,97,116,105,108,101],2),([109,117,116,101,120],3),([114,119,108,111,99,107],4),([99,111,110,100],5),([102,117,116,117,114,101],6)]
def Ff(s:List UInt8):Int:=(declTab.lookup s).getD 0
def Nw(ts:List Tk):Option (Int × List Tk):=
 if Ak [91] ts then
  match Fg ts.tail with
  | none=>none
  | some (n,r)=>if n=0 then none else(Ct [93] r).map fun r=>(n,r)
 else some (0,ts)
def Lf(ts:List Tk):Option (Int × List Tk):=
 if Ak [61] ts then
  if Ak [45] ts.tail then(Fg ts.tail.tail).map fun p=>(-p.1,p.2) else Fg ts.tail
 else some (0,ts)
def Mf:List Tk->Option (Dp × List Tk)
 | []=>none
 | t::ts=>
  match B8 ts with
  | none=>none
  | some (nm,ts)=>
   if Ff t.text=1 then
    (match Nw ts with
    | none=>none
    | some (sz,ts)=>
       match Lf ts with
       | none=>none
       | some (i,ts)=>(Ct [59] ts).map fun ts=>(⟨1,t.line,nm,sz,i,[]⟩,ts))
   else if Ff t.text=2 then
    (match Lf ts with
    | none=>none
    | some (i,ts)=>(Ct [59] ts).map fun ts=>(⟨2,t.line,nm,0,i,[]⟩,ts))
   else if Ff t.text=5 then
    (match B8 ts with
    | none=>none
    | some (on,ts)=>(Ct [59] ts).map fun ts=>(⟨5,t.line,nm,0,0,on⟩,ts))
   else(Ct [59] ts).map fun ts=>(⟨Ff t.text,t.line,nm,0,0,[]⟩,ts)
def I3:List Tk->Bool
 | t::_=>t.kind==3&&Ff t.text != 0
 | []=>false
def G7:Nat->List Tk->Option (List Dp × List Tk)
 | 0,_=>none
 | n+1,ts=>if I3 ts then
   (match Mf ts with
   | none=>none
   | some (d,r)=>
    match G7 n r with
    | none=>none
    | some (l,r)=>some (d::l,r))
  else some ([],ts)
def Hc:Nat->List Tk->Option (List (List UInt8) × List Tk)
 | 0,_=>none
 | n+1,ts=>
  match B8 ts with
  | none=>none
  | some (nm,ts)=>
   if Ak [44] ts then
    (match Hc n ts.tail with
    | none=>none
    | some (l,r)=>some (nm::l,r))
   else(Ct [41] ts).map fun ts=>([nm],ts)
def Ur(n:Nat)(ts:List Tk):Option (List (List UInt8) × List Tk):=if Ak [41] ts then some ([],ts.tail) else Hc n ts
def Mm(n:Nat):List Tk->Option (Tp × List Tk)
 | []=>none
 | t::ts=>
  match B8 ts with
  | none=>none
  | some (nm,ts)=>
   match Ct [40] ts with
   | none=>none
   | some ts=>
    match Ur n ts with
    | none=>none
    | some (l,ts)=>
       match Dy n ts with
       | none=>none
       | some (b,ts)=>some (⟨nm,t.line,true,0,l,true,0,b⟩,ts)
def J3:List UInt8:=[116,104,114,101,97,100]
def Hb(m:Nat):Nat->List Tk->Option (List Tp × List Tk)
 | 0,_=>none
 | n+1,ts=>if Ak J3 ts then
   (match Mm m ts with
   | none=>none
   | some (t,r)=>
    match Hb m n r with
    | none=>none
    | some (l,r)=>some (t::l,r))
  else some ([],ts)
def H9(k:Nat):Nat:=10*k+20
def Pj(ts:List Tk):Option (Gp × List Tk):=
 match G7 (ts.length+1) ts with
 | none=>none
 | some (ds,r)=>
  match Hb (H9 ts.length) (ts.length+1) r with
  | none=>none
  | some (l,r)=>if l.isEmpty then none else some (⟨true,0,ds,true,0,l⟩,r)
def Pa(s:List UInt8):Option Gp:=
 if 4096<s.length then none else
 match B7 s.length 1 s with
 | none=>none
 | some ts=>
  match Pj ts with
  | some (p,[])=>some p
  | _=>none
/-! the rows' flags say nothing -/
mutual
def Cw:Xp->Xp->Bool
 | ⟨op,n,nm,_,_,l⟩,⟨op',n',nm',_,_,l'⟩=>op==op'&&(n==n'&&(nm==nm'&&Cj l l'))
def Cj:List Xp->List Xp->Bool
 | [],[]=>true
 | x::l,y::l'=>Cw x y&&Cj l l'
 | [],_::_=>false
 | _::_,[]=>false
end
end Go.Proofs.YtlehfgdhebapeaaGreatDoor.KM
