/- Plain: tokens, what scanning a text gives, what parsing tokens gives. -/
import Derived.Test.YtcoeikinocflnaaGreatDoorCb
import Derived.Test.YtcoeikinocflnaaGreatDoorNj
import Derived.Lib.ParseIntB
set_option linter.all false
namespace Go.Proofs.YtcoeikinocflnaaGreatDoor.KM
open Go
structure Tk where
 kind:Int
 text:List UInt8
 line:Int
def Tk.row(t:Tk):List V:=[.int .i64 t.kind,.str t.text,.int .i64 t.line]
def Tk.zero:Tk:=⟨0,[],0⟩
def E9(c:UInt8):Bool:=Nz c.toNat
def C1(c:UInt8):Bool:=Mb c.toNat
def F6(c:UInt8):Bool:=N0 c.toNat
def twoS:List (List UInt8):=[[124,124],[38,38],[61,61],[33,61],[60,61],[62,61]]
def oneS:List UInt8:=[60,62,43,45,42,47,37,33,61,40,41,91,93,123,125,44,59]
def greatS:List UInt8:=[57,50,50,51,51,55,50,48,51,54,56,53,52,55,55,53,56,48,55]
def Ge(l:List UInt8):Nat:=
 if decide (2<=l.length)&&twoS.elem (l.take 2) then 2 else
 match l with
 | c::_=>if oneS.elem c then 1 else 0
 | []=>0
def K9(w:List UInt8):Bool:=
 let d:=w.dropWhile (·==48)
 !(decide (19<d.length)||(decide (d.length=19)&&Op.bytesLess greatS d))
def Dk(c:UInt8)(r:List UInt8):List UInt8:=c::r.takeWhile F6
def Dh(c:UInt8)(r:List UInt8):List UInt8:=c::r.takeWhile C1
def L6:List UInt8->Bool
 | d::_=>E9 d||d==95
 | []=>false
def Gx:List UInt8->Option (Int × List UInt8)
 | []=>none
 | c::r=>
  if E9 c then(if 12<(Dk c r).length then none else some (if Hv (Dk c r) then 3 else 1,Dk c r))
  else if C1 c then(if L6 (r.dropWhile C1) then none else if K9 (Dh c r) then some (2,Dh c r) else none)
  else if Ge (c::r)=0 then none else some (4,(c::r).take (Ge (c::r)))
def B1:Nat->Int->List UInt8->Option (List Tk)
 | _,_,[]=>some []
 | 0,_,_::_=>none
 | n+1,ln,c::r=>
  if c=10 then B1 n (ln+1) r
  else if c=32\/c=9\/c=13 then B1 n ln r
  else if c=47/\r.head?=some 47 then B1 n ln ((c::r).dropWhile (· != 10))
  else match Gx (c::r) with
  | none=>none
  | some (k,w)=>(B1 n ln ((c::r).drop w.length)).map fun l=>⟨k,w,ln⟩::l
/-! expressions -/
def Ai(s:List UInt8):List Tk->Bool
 | t::_=>(t.kind==3||t.kind==4)&&t.text==s
 | []=>false
def opTab:List (List UInt8 × Int × Int):=[([124,124],18,1),([38,38],17,2),([61,61],11,3),([33,61],12,3),([60],13,3),([60,61],14,3),([62],15,3),([62,61],16,3),([43],6,4),([45],7,4),([42],8,5),([47],9,5),([37],10,5)]
def En(s:List UInt8):Int × Int:=(opTab.lookup s).getD (0,0)
def Fa(lvl:Nat):List Tk->Int
 | t::_=>if t.kind=4 then(if(En t.text).2=(lvl:Int) then(En t.text).1 else 0) else 0
 | []=>0
def Gj(w:List UInt8):Int:=
 match Lib.parseIntB 64 w with
 | .ok v=>v
 | _=>0
def Gk(op:Int)(x y:Xp):Xp:=⟨op,0,[],true,1,[x,y]⟩
def Jd(op:Int)(x:Xp):Xp:=⟨op,0,[],true,1,[x]⟩
mutual
def pe:Nat->Nat->List Tk->Option (Xp × List Tk)
 | 0,_,_=>none
 | n+1,lvl,ts=>if 5<lvl then pu n ts else
  match pe n (lvl+1) ts with
  | none=>none
  | some (x,r)=>lp n lvl x r
def lp:Nat->Nat->Xp->List Tk->Option (Xp × List Tk)
 | 0,_,_,_=>none
 | n+1,lvl,x,ts=>if Fa lvl ts=0 then some (x,ts) else
  match pe n (lvl+1) ts.tail with
  | none=>none
  | some (y,r)=>if lvl=3 then some (Gk (Fa lvl ts) x y,r) else lp n lvl (Gk (Fa lvl ts) x y) r
def pu:Nat->List Tk->Option (Xp × List Tk)
 | 0,_=>none
 | n+1,ts=>if Ai [45] ts then(match pu n ts.tail with
   | none=>none
   | some (x,r)=>some (Jd 4 x,r))
  else if Ai [33] ts then(match pu n ts.tail with
   | none=>none
   | some (x,r)=>some (Jd 5 x,r))
  else pp n ts
def pp:Nat->List Tk->Option (Xp × List Tk)
 | 0,_=>none
 | _+1,[]=>none
 | n+1,t::ts=>if t.kind=2 then some (⟨1,Gj t.text,[],true,0,[]⟩,ts)
  else if t.kind=1 then
   (if Ai [91] ts then(match pe n 1 ts.tail with
    | none=>none
    | some (x,r)=>if Ai [93] r then some (⟨3,0,t.text,true,1,[x]⟩,r.tail) else none)
   else some (⟨2,0,t.text,true,0,[]⟩,ts))
  else if Ai [40] (t::ts) then(match pe n 1 ts with
   | none=>none
   | some (x,r)=>if Ai [41] r then some (x,r.tail) else none)
  else none
end
/-! statements -/
def wordTab:List (List UInt8 × Int):=[([105,102],2),([119,104,105,108,101],3),([108,111,99,107],4),([114,101,97,100],5),([119,114,105,116,101],6),([116,114,97,110,115,97,99,116,105,111,110],7),([97,116,111,109,105,99],8),([119,97,105,116],9),([110,111,116,105,102,121],10),([110,111,116,105,102,121,97,108,108],11),([115,112,97,119,110],12),([106,111,105,110],13),([115,101,116],14),([103,101,116],15)]
def C2(s:List UInt8):Int:=(wordTab.lookup s).getD 0
def B4:List Tk->Option (List UInt8 × List Tk)
 | t::ts=>if t.kind=1 then some (t.text,ts) else none
 | []=>none
def E0:List Tk->Option (Int × List Tk)
 | t::ts=>if t.kind=2 then some (Gj t.text,ts) else none
 | []=>none
def Co(s:List UInt8)(ts:List Tk):Option (List Tk):=if Ai s ts then some ts.tail else none
def Ag(op line:Int):Sp:=⟨op,line,[],[],true,0,[],Xp.zero,true,0,[],true,0,[]⟩
def U2(n:Nat)(ts:List Tk):Option (List Xp × List Tk):=
 if Ai [91] ts then
  match pe n 1 ts.tail with
  | none=>none
  | some (x,r)=>(Co [93] r).map fun r=>([x],r)
 else some ([],ts)
def Mc(n:Nat)(line:Int)(ts:List Tk):Option (Sp × List Tk):=
 match B4 ts with
 | none=>none
 | some (nm,ts)=>
  match U2 n ts with
  | none=>none
  | some (ix,ts)=>
   match Co [61] ts with
   | none=>none
   | some ts=>
    match pe n 1 ts with
    | none=>none
    | some (x,ts)=>(Co [59] ts).map fun ts=>({ Ag 1 line with nm:=nm,it:=ix.length,idx:=ix,ex:=x },ts)
mutual
def D8:Nat->List Tk->Option (Sp × List Tk)
 | 0,_=>none
 | _+1,[]=>none
 | n+1,t::ts=>
  if t.kind=1 then Mc n t.line (t::ts)
  else if t.kind=3 then
   (if C2 t.text=0 then none
   else if C2 t.text=2\/C2 t.text=3 then
    (match pe n 1 ts with
    | none=>none
    | some (x,ts)=>
     match Dw n ts with
     | none=>none
     | some (b,ts)=>
      if C2 t.text=2/\Ai [101,108,115,101] ts=true then
       (match Dw n ts.tail with
       | none=>none
       | some (e,ts)=>some ({ Ag (C2 t.text) t.line with ex:=x,body:=b,els:=e },ts))
      else some ({ Ag (C2 t.text) t.line with ex:=x,body:=b },ts))
   else if C2 t.text=7\/C2 t.text=8 then
    (match Dw n ts with
    | none=>none
    | some (b,ts)=>some ({ Ag (C2 t.text) t.line with body:=b },ts))
   else
    (match B4 ts with
    | none=>none
    | some (nm,ts)=>
     if C2 t.text=4\/C2 t.text=5\/C2 t.text=6 then
      (match Dw n ts with
      | none=>none
      | some (b,ts)=>some ({ Ag (C2 t.text) t.line with nm:=nm,body:=b },ts))
     else if C2 t.text=14 then
      (match pe n 1 ts with
      | none=>none
      | some (x,ts)=>(Co [59] ts).map fun ts=>({ Ag (C2 t.text) t.line with nm:=nm,ex:=x },ts))
     else if C2 t.text=15 then
      (match B4 ts with
      | none=>none
      | some (ar,ts)=>(Co [59] ts).map fun ts=>({ Ag (C2 t.text) t.line with nm:=nm,arg:=ar },ts))
     else(Co [59] ts).map fun ts=>({ Ag (C2 t.text) t.line with nm:=nm },ts)))
  else none
def Dw:Nat->List Tk->Option (List Sp × List Tk)
 | 0,_=>none
 | n+1,ts=>if Ai [123] ts then F7 n ts.tail else none
def F7:Nat->List Tk->Option (List Sp × List Tk)
 | 0,_=>none
 | n+1,ts=>if Ai [125] ts then some ([],ts.tail) else
  match D8 n ts with
  | none=>none
  | some (s,r)=>
   match F7 n r with
   | none=>none
   | some (l,r)=>some (s::l,r)
end
/-! declarations, threads, programs -/
def declTab:List (List UInt8 × Int):=[([118,97,114],1),([118,111,108,97,116,105,108,101],2),([109,117,116,101,120],3),([114,119,108,111,99,107],4),([99,111,110,100],5),([102,117,116,117,114,101],6)]
def Ez(s:List UInt8):Int:=(declTab.lookup s).getD 0
def Ni(ts:List Tk):Option (Int × List Tk):=
 if Ai [91] ts then
  match E0 ts.tail with
  | none=>none
  | some (n,r)=>if n=0 then none else(Co [93] r).map fun r=>(n,r)
 else some (0,ts)
def La(ts:List Tk):Option (Int × List Tk):=
 if Ai [61] ts then
  if Ai [45] ts.tail then(E0 ts.tail.tail).map fun p=>(-p.1,p.2) else E0 ts.tail
 else some (0,ts)
def L7:List Tk->Option (Dp × List Tk)
 | []=>none
 | t::ts=>
  match B4 ts with
  | none=>none
  | some (nm,ts)=>
   if Ez t.text=1 then
    (match Ni ts with
    | none=>none
    | some (sz,ts)=>
       match La ts with
       | none=>none
       | some (i,ts)=>(Co [59] ts).map fun ts=>(⟨1,t.line,nm,sz,i,[]⟩,ts))
   else if Ez t.text=2 then
    (match La ts with
    | none=>none
    | some (i,ts)=>(Co [59] ts).map fun ts=>(⟨2,t.line,nm,0,i,[]⟩,ts))
   else if Ez t.text=5 then
    (match B4 ts with
    | none=>none
    | some (on,ts)=>(Co [59] ts).map fun ts=>(⟨5,t.line,nm,0,0,on⟩,ts))
   else(Co [59] ts).map fun ts=>(⟨Ez t.text,t.line,nm,0,0,[]⟩,ts)
def I4:List Tk->Bool
 | t::_=>t.kind==3&&Ez t.text != 0
 | []=>false
def Gy:Nat->List Tk->Option (List Dp × List Tk)
 | 0,_=>none
 | n+1,ts=>if I4 ts then
   (match L7 ts with
   | none=>none
   | some (d,r)=>
    match Gy n r with
    | none=>none
    | some (l,r)=>some (d::l,r))
  else some ([],ts)
def G8:Nat->List Tk->Option (List (List UInt8) × List Tk)
 | 0,_=>none
 | n+1,ts=>
  match B4 ts with
  | none=>none
  | some (nm,ts)=>
   if Ai [44] ts then
    (match G8 n ts.tail with
    | none=>none
    | some (l,r)=>some (nm::l,r))
   else(Co [41] ts).map fun ts=>([nm],ts)
def Ur(n:Nat)(ts:List Tk):Option (List (List UInt8) × List Tk):=if Ai [41] ts then some ([],ts.tail) else G8 n ts
def Md(n:Nat):List Tk->Option (Tp × List Tk)
 | []=>none
 | t::ts=>
  match B4 ts with
  | none=>none
  | some (nm,ts)=>
   match Co [40] ts with
   | none=>none
   | some ts=>
    match Ur n ts with
    | none=>none
    | some (l,ts)=>
       match Dw n ts with
       | none=>none
       | some (b,ts)=>some (⟨nm,t.line,true,0,l,true,0,b⟩,ts)
def N1:List UInt8:=[116,104,114,101,97,100]
def G5(m:Nat):Nat->List Tk->Option (List Tp × List Tk)
 | 0,_=>none
 | n+1,ts=>if Ai N1 ts then
   (match Md m ts with
   | none=>none
   | some (t,r)=>
    match G5 m n r with
    | none=>none
    | some (l,r)=>some (t::l,r))
  else some ([],ts)
def H7(k:Nat):Nat:=10*k+20
def Pj(ts:List Tk):Option (Gp × List Tk):=
 match Gy (ts.length+1) ts with
 | none=>none
 | some (ds,r)=>
  match G5 (H7 ts.length) (ts.length+1) r with
  | none=>none
  | some (l,r)=>if l.isEmpty then none else some (⟨true,0,ds,true,0,l⟩,r)
def M8(s:List UInt8):Option Gp:=
 if 4096<s.length then none else
 match B1 s.length 1 s with
 | none=>none
 | some ts=>
  match Pj ts with
  | some (p,[])=>some p
  | _=>none
/-! the rows' flags say nothing -/
mutual
def Fc:Xp->Xp->Bool
 | ⟨op,n,nm,_,_,l⟩,⟨op',n',nm',_,_,l'⟩=>op==op'&&(n==n'&&(nm==nm'&&F9 l l'))
def F9:List Xp->List Xp->Bool
 | [],[]=>true
 | x::l,y::l'=>Fc x y&&F9 l l'
 | [],_::_=>false
 | _::_,[]=>false
end
end Go.Proofs.YtcoeikinocflnaaGreatDoor.KM
