/- Plain: tokens, what scanning a text gives, what parsing tokens gives. -/
import Derived.Test.YtlehfgdhebapeaaGreatDoorCb
import Derived.Test.YtlehfgdhebapeaaGreatDoorNe
import Derived.Lib.ParseIntB
set_option linter.all false
namespace Go.Proofs.YtlehfgdhebapeaaGreatDoor.KM
open Go
structure Tk where
 kind:Int
 text:List UInt8
 line:Int
def Tk.row(t:Tk):List V:=[.int .i64 t.kind,.str t.text,.int .i64 t.line]
def Tk.zero:Tk:=⟨0,[],0⟩
def letB(c:UInt8):Bool:=letN c.toNat
def digB(c:UInt8):Bool:=digN c.toNat
def innB(c:UInt8):Bool:=innN c.toNat
def twoS:List (List UInt8):=[[124,124],[38,38],[61,61],[33,61],[60,61],[62,61]]
def oneS:List UInt8:=[60,62,43,45,42,47,37,33,61,40,41,91,93,123,125,44,59]
def greatS:List UInt8:=[57,50,50,51,51,55,50,48,51,54,56,53,52,55,55,53,56,48,55]
def signE(l:List UInt8):Nat:=
 if decide (2≤l.length)&&twoS.elem (l.take 2) then 2 else
 match l with
 | c::_=>if oneS.elem c then 1 else 0
 | []=>0
def numOk(w:List UInt8):Bool:=
 let d:=w.dropWhile (·==48)
 !(decide (19<d.length)||(decide (d.length=19)&&Op.bytesLess greatS d))
def wrdE(c:UInt8)(r:List UInt8):List UInt8:=c::r.takeWhile innB
def digsE(c:UInt8)(r:List UInt8):List UInt8:=c::r.takeWhile digB
def glued:List UInt8→Bool
 | d::_=>letB d||d==95
 | []=>false
def firstE:List UInt8→Option (Int × List UInt8)
 | []=>none
 | c::r=>
  if letB c then(if 12<(wrdE c r).length then none else some (if kwE (wrdE c r) then 3 else 1,wrdE c r))
  else if digB c then(if glued (r.dropWhile digB) then none else if numOk (digsE c r) then some (2,digsE c r) else none)
  else if signE (c::r)=0 then none else some (4,(c::r).take (signE (c::r)))
def scanE:Nat→Int→List UInt8→Option (List Tk)
 | _,_,[]=>some []
 | 0,_,_::_=>none
 | n+1,ln,c::r=>
  if c=10 then scanE n (ln+1) r
  else if c=32∨c=9∨c=13 then scanE n ln r
  else if c=47∧r.head?=some 47 then scanE n ln ((c::r).dropWhile (· != 10))
  else match firstE (c::r) with
  | none=>none
  | some (k,w)=>(scanE n ln ((c::r).drop w.length)).map fun l=>⟨k,w,ln⟩::l
/-! expressions -/
def isT(s:List UInt8):List Tk→Bool
 | t::_=>(t.kind==3||t.kind==4)&&t.text==s
 | []=>false
def opTab:List (List UInt8 × Int × Int):=[([124,124],18,1),([38,38],17,2),([61,61],11,3),([33,61],12,3),([60],13,3),([60,61],14,3),([62],15,3),([62,61],16,3),([43],6,4),([45],7,4),([42],8,5),([47],9,5),([37],10,5)]
def opT(s:List UInt8):Int × Int:=(opTab.lookup s).getD (0,0)
def opAt(lvl:Nat):List Tk→Int
 | t::_=>if t.kind=4 then(if(opT t.text).2=(lvl:Int) then(opT t.text).1 else 0) else 0
 | []=>0
def numV(w:List UInt8):Int:=
 match Lib.parseIntB 64 w with
 | .ok v=>v
 | _=>0
def binX(op:Int)(x y:Xp):Xp:=⟨op,0,[],true,1,[x,y]⟩
def unX(op:Int)(x:Xp):Xp:=⟨op,0,[],true,1,[x]⟩
mutual
def pe:Nat→Nat→List Tk→Option (Xp × List Tk)
 | 0,_,_=>none
 | n+1,lvl,ts=>if 5<lvl then pu n ts else
  match pe n (lvl+1) ts with
  | none=>none
  | some (x,r)=>lp n lvl x r
def lp:Nat→Nat→Xp→List Tk→Option (Xp × List Tk)
 | 0,_,_,_=>none
 | n+1,lvl,x,ts=>if opAt lvl ts=0 then some (x,ts) else
  match pe n (lvl+1) ts.tail with
  | none=>none
  | some (y,r)=>if lvl=3 then some (binX (opAt lvl ts) x y,r) else lp n lvl (binX (opAt lvl ts) x y) r
def pu:Nat→List Tk→Option (Xp × List Tk)
 | 0,_=>none
 | n+1,ts=>if isT [45] ts then(match pu n ts.tail with
   | none=>none
   | some (x,r)=>some (unX 4 x,r))
  else if isT [33] ts then(match pu n ts.tail with
   | none=>none
   | some (x,r)=>some (unX 5 x,r))
  else pp n ts
def pp:Nat→List Tk→Option (Xp × List Tk)
 | 0,_=>none
 | _+1,[]=>none
 | n+1,t::ts=>if t.kind=2 then some (⟨1,numV t.text,[],true,0,[]⟩,ts)
  else if t.kind=1 then
   (if isT [91] ts then(match pe n 1 ts.tail with
    | none=>none
    | some (x,r)=>if isT [93] r then some (⟨3,0,t.text,true,1,[x]⟩,r.tail) else none)
   else some (⟨2,0,t.text,true,0,[]⟩,ts))
  else if isT [40] (t::ts) then(match pe n 1 ts with
   | none=>none
   | some (x,r)=>if isT [41] r then some (x,r.tail) else none)
  else none
end
/-! statements -/
def wordTab:List (List UInt8 × Int):=[([105,102],2),([119,104,105,108,101],3),([108,111,99,107],4),([114,101,97,100],5),([119,114,105,116,101],6),([116,114,97,110,115,97,99,116,105,111,110],7),([97,116,111,109,105,99],8),([119,97,105,116],9),([110,111,116,105,102,121],10),([110,111,116,105,102,121,97,108,108],11),([115,112,97,119,110],12),([106,111,105,110],13),([115,101,116],14),([103,101,116],15)]
def wordT(s:List UInt8):Int:=(wordTab.lookup s).getD 0
def pName:List Tk→Option (List UInt8 × List Tk)
 | t::ts=>if t.kind=1 then some (t.text,ts) else none
 | []=>none
def pNum:List Tk→Option (Int × List Tk)
 | t::ts=>if t.kind=2 then some (numV t.text,ts) else none
 | []=>none
def pTok(s:List UInt8)(ts:List Tk):Option (List Tk):=if isT s ts then some ts.tail else none
def zSp(op line:Int):Sp:=⟨op,line,[],[],true,0,[],Xp.zero,true,0,[],true,0,[]⟩
def pIdx(n:Nat)(ts:List Tk):Option (List Xp × List Tk):=
 if isT [91] ts then
  match pe n 1 ts.tail with
  | none=>none
  | some (x,r)=>(pTok [93] r).map fun r=>([x],r)
 else some ([],ts)
def pAsg(n:Nat)(line:Int)(ts:List Tk):Option (Sp × List Tk):=
 match pName ts with
 | none=>none
 | some (nm,ts)=>
  match pIdx n ts with
  | none=>none
  | some (ix,ts)=>
   match pTok [61] ts with
   | none=>none
   | some ts=>
    match pe n 1 ts with
    | none=>none
    | some (x,ts)=>(pTok [59] ts).map fun ts=>({ zSp 1 line with nm:=nm,it:=ix.length,idx:=ix,ex:=x },ts)
mutual
def pst:Nat→List Tk→Option (Sp × List Tk)
 | 0,_=>none
 | _+1,[]=>none
 | n+1,t::ts=>
  if t.kind=1 then pAsg n t.line (t::ts)
  else if t.kind=3 then
   (if wordT t.text=0 then none
   else if wordT t.text=2∨wordT t.text=3 then
    (match pe n 1 ts with
    | none=>none
    | some (x,ts)=>
     match pbl n ts with
     | none=>none
     | some (b,ts)=>
      if wordT t.text=2∧isT [101,108,115,101] ts=true then
       (match pbl n ts.tail with
       | none=>none
       | some (e,ts)=>some ({ zSp (wordT t.text) t.line with ex:=x,body:=b,els:=e },ts))
      else some ({ zSp (wordT t.text) t.line with ex:=x,body:=b },ts))
   else if wordT t.text=7∨wordT t.text=8 then
    (match pbl n ts with
    | none=>none
    | some (b,ts)=>some ({ zSp (wordT t.text) t.line with body:=b },ts))
   else
    (match pName ts with
    | none=>none
    | some (nm,ts)=>
     if wordT t.text=4∨wordT t.text=5∨wordT t.text=6 then
      (match pbl n ts with
      | none=>none
      | some (b,ts)=>some ({ zSp (wordT t.text) t.line with nm:=nm,body:=b },ts))
     else if wordT t.text=14 then
      (match pe n 1 ts with
      | none=>none
      | some (x,ts)=>(pTok [59] ts).map fun ts=>({ zSp (wordT t.text) t.line with nm:=nm,ex:=x },ts))
     else if wordT t.text=15 then
      (match pName ts with
      | none=>none
      | some (ar,ts)=>(pTok [59] ts).map fun ts=>({ zSp (wordT t.text) t.line with nm:=nm,arg:=ar },ts))
     else(pTok [59] ts).map fun ts=>({ zSp (wordT t.text) t.line with nm:=nm },ts)))
  else none
def pbl:Nat→List Tk→Option (List Sp × List Tk)
 | 0,_=>none
 | n+1,ts=>if isT [123] ts then pls n ts.tail else none
def pls:Nat→List Tk→Option (List Sp × List Tk)
 | 0,_=>none
 | n+1,ts=>if isT [125] ts then some ([],ts.tail) else
  match pst n ts with
  | none=>none
  | some (s,r)=>
   match pls n r with
   | none=>none
   | some (l,r)=>some (s::l,r)
end
/-! declarations, threads, programs -/
def declTab:List (List UInt8 × Int):=[([118,97,114],1),([118,111,108,97,116,105,108,101],2),([109,117,116,101,120],3),([114,119,108,111,99,107],4),([99,111,110,100],5),([102,117,116,117,114,101],6)]
def declT(s:List UInt8):Int:=(declTab.lookup s).getD 0
def pSize(ts:List Tk):Option (Int × List Tk):=
 if isT [91] ts then
  match pNum ts.tail with
  | none=>none
  | some (n,r)=>if n=0 then none else(pTok [93] r).map fun r=>(n,r)
 else some (0,ts)
def pInit(ts:List Tk):Option (Int × List Tk):=
 if isT [61] ts then
  if isT [45] ts.tail then(pNum ts.tail.tail).map fun p=>(-p.1,p.2) else pNum ts.tail
 else some (0,ts)
def pDecl:List Tk→Option (Dp × List Tk)
 | []=>none
 | t::ts=>
  match pName ts with
  | none=>none
  | some (nm,ts)=>
   if declT t.text=1 then
    (match pSize ts with
    | none=>none
    | some (sz,ts)=>
       match pInit ts with
       | none=>none
       | some (i,ts)=>(pTok [59] ts).map fun ts=>(⟨1,t.line,nm,sz,i,[]⟩,ts))
   else if declT t.text=2 then
    (match pInit ts with
    | none=>none
    | some (i,ts)=>(pTok [59] ts).map fun ts=>(⟨2,t.line,nm,0,i,[]⟩,ts))
   else if declT t.text=5 then
    (match pName ts with
    | none=>none
    | some (on,ts)=>(pTok [59] ts).map fun ts=>(⟨5,t.line,nm,0,0,on⟩,ts))
   else(pTok [59] ts).map fun ts=>(⟨declT t.text,t.line,nm,0,0,[]⟩,ts)
def isDecl:List Tk→Bool
 | t::_=>t.kind==3&&declT t.text != 0
 | []=>false
def pDecls:Nat→List Tk→Option (List Dp × List Tk)
 | 0,_=>none
 | n+1,ts=>if isDecl ts then
   (match pDecl ts with
   | none=>none
   | some (d,r)=>
    match pDecls n r with
    | none=>none
    | some (l,r)=>some (d::l,r))
  else some ([],ts)
def pLoc:Nat→List Tk→Option (List (List UInt8) × List Tk)
 | 0,_=>none
 | n+1,ts=>
  match pName ts with
  | none=>none
  | some (nm,ts)=>
   if isT [44] ts then
    (match pLoc n ts.tail with
    | none=>none
    | some (l,r)=>some (nm::l,r))
   else(pTok [41] ts).map fun ts=>([nm],ts)
def pLocs(n:Nat)(ts:List Tk):Option (List (List UInt8) × List Tk):=if isT [41] ts then some ([],ts.tail) else pLoc n ts
def pThr(n:Nat):List Tk→Option (Tp × List Tk)
 | []=>none
 | t::ts=>
  match pName ts with
  | none=>none
  | some (nm,ts)=>
   match pTok [40] ts with
   | none=>none
   | some ts=>
    match pLocs n ts with
    | none=>none
    | some (l,ts)=>
       match pbl n ts with
       | none=>none
       | some (b,ts)=>some (⟨nm,t.line,true,0,l,true,0,b⟩,ts)
def thrW:List UInt8:=[116,104,114,101,97,100]
def pThrs(m:Nat):Nat→List Tk→Option (List Tp × List Tk)
 | 0,_=>none
 | n+1,ts=>if isT thrW ts then
   (match pThr m ts with
   | none=>none
   | some (t,r)=>
    match pThrs m n r with
    | none=>none
    | some (l,r)=>some (t::l,r))
  else some ([],ts)
def fuelT(k:Nat):Nat:=10*k+20
def pProg(ts:List Tk):Option (Gp × List Tk):=
 match pDecls (ts.length+1) ts with
 | none=>none
 | some (ds,r)=>
  match pThrs (fuelT ts.length) (ts.length+1) r with
  | none=>none
  | some (l,r)=>if l.isEmpty then none else some (⟨true,0,ds,true,0,l⟩,r)
def parseE(s:List UInt8):Option Gp:=
 if 4096<s.length then none else
 match scanE s.length 1 s with
 | none=>none
 | some ts=>
  match pProg ts with
  | some (p,[])=>some p
  | _=>none
/-! the rows' flags say nothing -/
mutual
def sameX:Xp→Xp→Bool
 | ⟨op,n,nm,_,_,l⟩,⟨op',n',nm',_,_,l'⟩=>op==op'&&(n==n'&&(nm==nm'&&sameXs l l'))
def sameXs:List Xp→List Xp→Bool
 | [],[]=>true
 | x::l,y::l'=>sameX x y&&sameXs l l'
 | [],_::_=>false
 | _::_,[]=>false
end
end Go.Proofs.YtlehfgdhebapeaaGreatDoor.KM
