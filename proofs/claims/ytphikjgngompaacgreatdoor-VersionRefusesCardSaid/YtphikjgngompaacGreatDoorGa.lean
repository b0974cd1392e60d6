/- Plain: programs as trees, their rows and texts. -/
import Derived.Lib.ParseIntB
import Derived.Test.YtphikjgngompaacGreatDoorNu
set_option linter.all false
namespace Go.Proofs.YtphikjgngompaacGreatDoor.KM
open Go
/-! expressions -/
structure Xp where
 op:Int
 n:Int
 nm:List UInt8
 z:Bool
 t:Nat
 l:List Xp
mutual
def Xp.row:Xp->List V
 | ⟨op,n,nm,z,t,l⟩=>[.int .i64 op,.int .i64 n,.str nm,SL z t (Xp.rows l)]
def Xp.rows:List Xp->List (List V)
 | []=>[]
 | x::l=>x.row::Xp.rows l
end
def Apz:∀ l:List Xp,Xp.rows l=l.map Xp.row
 | []=>rfl
 | x::l=>by rw[Xp.rows,Apz l];rfl
theorem Bi(x:Xp):x.row=[iV x.op,iV x.n,.str x.nm,SL x.z x.t (x.l.map Xp.row)]:=by
 rw[<-Apz];cases x;rfl
def Xp.zero:Xp:=⟨0,0,[],true,0,[]⟩
def Cr(op:Int):List UInt8:=
 match op with
 | 4=>[45] | 5=>[33] | 6=>[43] | 7=>[45] | 8=>[42] | 9=>[47] | 10=>[37] | 11=>[61,61] | 12=>[33,61] | 13=>[60] | 14=>[60,61] | 15=>[62] | 16=>[62,61] | 17=>[38,38] | 18=>[124,124] | _=>[]
def Bu(op:Int):Int:=
 match op with
 | 4=>6 | 5=>6 | 6=>4 | 7=>4 | 8=>5 | 9=>5 | 10=>5 | 11=>3 | 12=>3 | 13=>3 | 14=>3 | 15=>3 | 16=>3 | 17=>2 | 18=>1 | _=>7
def Xt(op:Int):Int:=if op=1\/op=2 then 0 else if 3<=op/\op<=5 then 1 else if 6<=op/\op<=18 then 2 else -1
def Eh(o:Int × List UInt8)(qc:Int):List UInt8:=if Bu o.1<qc then 40::(o.2++[41]) else o.2
def Ik(op:Int):Int:=if Bu op=3 then 4 else Bu op
def Em(op n:Int)(nm:List UInt8)(ts:List (Int × List UInt8)):List UInt8:=
 if op=1 then Cy n else if op=2 then nm else
 match ts with
 | [a]=>if op=3 then nm++91::(a.2++[93]) else Cr op++Eh a 6
 | [a,b]=>Eh a (Ik op)++32::(Cr op++32::Eh b (Bu op+1))
 | _=>[]
mutual
def Xp.txt:Xp->List UInt8
 | ⟨op,n,nm,_,_,l⟩=>Em op n nm (Xp.txts l)
def Xp.txts:List Xp->List (Int × List UInt8)
 | []=>[]
 | x::l=>(x.op,x.txt)::Xp.txts l
end
def Ap0:∀ l:List Xp,Xp.txts l=l.map fun x=>(x.op,x.txt)
 | []=>rfl
 | x::l=>by rw[Xp.txts,Ap0 l];rfl
theorem F2(x:Xp):x.txt=Em x.op x.n x.nm (x.l.map fun x=>(x.op,x.txt)):=by
 rw[<-Ap0];cases x;rfl
inductive Cn:Xp->Prop
 | num {n:Int} {nm:List UInt8} {z:Bool} {t:Nat} : -9223372036854775808<=n/\n<=9223372036854775807->Cn ⟨1,n,nm,z,t,[]⟩
 | name {n:Int} {nm:List UInt8} {z:Bool} {t:Nat}:Cn ⟨2,n,nm,z,t,[]⟩
 | idx {n:Int} {nm:List UInt8} {z:Bool} {t:Nat} {a:Xp}:Cn a->Cn ⟨3,n,nm,z,t,[a]⟩
 | un {op n:Int} {nm:List UInt8} {z:Bool} {t:Nat} {a:Xp}:op=4\/op=5->Cn a->Cn ⟨op,n,nm,z,t,[a]⟩
 | bin {op n:Int} {nm:List UInt8} {z:Bool} {t:Nat} {a b:Xp}:6<=op/\op<=18->Cn a->Cn b->Cn ⟨op,n,nm,z,t,[a,b]⟩
/-! statements -/
structure Sp where
 op:Int
 line:Int
 nm:List UInt8
 arg:List UInt8
 iz:Bool
 it:Nat
 idx:List Xp
 ex:Xp
 bz:Bool
 bt:Nat
 body:List Sp
 ez:Bool
 et:Nat
 els:List Sp
mutual
def Sp.row:Sp->List V
 | ⟨op,line,nm,arg,iz,it,idx,ex,bz,bt,body,ez,et,els⟩=>[.int .i64 op,.int .i64 line,.str nm,.str arg,SL iz it (idx.map Xp.row)]++ex.row++[SL bz bt (Sp.rows body),SL ez et (Sp.rows els)]
def Sp.rows:List Sp->List (List V)
 | []=>[]
 | x::l=>x.row::Sp.rows l
end
def Ah6:∀ l:List Sp,Sp.rows l=l.map Sp.row
 | []=>rfl
 | x::l=>by rw[Sp.rows,Ah6 l];rfl
def Ru(s:Sp):s.row=[iV s.op,iV s.line,.str s.nm,.str s.arg,SL s.iz s.it (s.idx.map Xp.row)]++s.ex.row++[SL s.bz s.bt (s.body.map Sp.row),SL s.ez s.et (s.els.map Sp.row)]:=by
 rw[<-Ah6,<-Ah6];cases s;rfl
def C9(op:Int):List UInt8:=
 match op with
 | 2=>[105,102] | 3=>[119,104,105,108,101] | 4=>[108,111,99,107] | 5=>[114,101,97,100] | 6=>[119,114,105,116,101] | 7=>[116,114,97,110,115,97,99,116,105,111,110] | 8=>[97,116,111,109,105,99] | 9=>[119,97,105,116] | 10=>[110,111,116,105,102,121] | 11=>[110,111,116,105,102,121,97,108,108] | 12=>[115,112,97,119,110] | 13=>[106,111,105,110] | 14=>[115,101,116] | 15=>[103,101,116] | _=>[]
def F6(l:List Xp):List UInt8:=match l with
 | a::_=>91::(a.txt++[93])
 | []=>[]
def Cu(s:Sp):List UInt8:=
 if s.op=1 then s.nm++(F6 s.idx++32::61::32::s.ex.txt)
 else if s.op=2\/s.op=3 then C9 s.op++32::s.ex.txt
 else if s.op=7\/s.op=8 then C9 s.op
 else if s.op=14 then C9 s.op++32::(s.nm++32::s.ex.txt)
 else if s.op=15 then C9 s.op++32::(s.nm++32::s.arg)
 else C9 s.op++32::s.nm
def Et(d:Nat):List UInt8:=List.replicate (2*d) 32
def B6(op:Int):Bool:=decide (2<=op)&&decide (op<=8)
mutual
def Sp.txt:Nat->Sp->List UInt8
 | d,⟨op,line,nm,arg,iz,it,idx,ex,bz,bt,body,ez,et,els⟩=>
  Et d++(Cu ⟨op,line,nm,arg,iz,it,idx,ex,bz,bt,body,ez,et,els⟩ ++
   if B6 op then 32::123::10::(Sp.txts (d+1) body++((if els.isEmpty then [] else Et d++125::32::101::108::115::101::32::123::10::Sp.txts (d+1) els)++(Et d++[125,10]))) else [59,10])
def Sp.txts:Nat->List Sp->List UInt8
 | _,[]=>[]
 | d,x::l=>x.txt d++Sp.txts d l
end
inductive CnS:Sp->Prop
 | mk {s:Sp}:1<=s.op/\s.op<=15->s.idx.length<=1->(s.op≠1->s.idx=[])->(∀ x∈s.idx,Cn x)->((s.op=1\/s.op=2\/s.op=3\/s.op=14)->Cn s.ex)->(B6 s.op=false->s.body=[])->(s.op≠2->s.els=[])->(∀ x∈s.body,CnS x)->(∀ x∈s.els,CnS x)->CnS s
/-! declarations, threads, programs -/
structure Dp where
 kind:Int
 line:Int
 nm:List UInt8
 size:Int
 init:Int
 on:List UInt8
def Dp.row(d:Dp):List V:=[iV d.kind,iV d.line,.str d.nm,iV d.size,iV d.init,.str d.on]
def Pt(n:Int):List UInt8:=if n=0 then [] else 32::61::32::Cy n
def F5(d:Dp):List UInt8:=
 if d.kind=1 then [118,97,114,32]++(d.nm++((if d.size=0 then [] else 91::(Cy d.size++[93]))++Pt d.init))
 else if d.kind=2 then [118,111,108,97,116,105,108,101,32]++(d.nm++Pt d.init)
 else if d.kind=3 then [109,117,116,101,120,32]++d.nm
 else if d.kind=4 then [114,119,108,111,99,107,32]++d.nm
 else if d.kind=5 then [99,111,110,100,32]++(d.nm++32::d.on)
 else [102,117,116,117,114,101,32]++d.nm
structure CnD (d:Dp):Prop where
 kind:1<=d.kind/\d.kind<=6
 size:0<=d.size/\d.size<=9223372036854775807/\(d.kind≠1->d.size=0)
 init : -9223372036854775808<=d.init/\d.init<=9223372036854775807/\(d.kind≠1->d.kind≠2->d.init=0)
structure Tp where
 nm:List UInt8
 line:Int
 lz:Bool
 lt:Nat
 locals:List (List UInt8)
 bz:Bool
 bt:Nat
 body:List Sp
def Tp.row(t:Tp):List V:=[.str t.nm,iV t.line,SL t.lz t.lt (t.locals.map fun s=>[V.str s]),SL t.bz t.bt (t.body.map Sp.row)]
def Fh:List (List UInt8)->List UInt8
 | []=>[]
 | [a]=>a
 | a::b::l=>a++44::32::Fh (b::l)
def Fx(t:Tp):List UInt8:=[116,104,114,101,97,100,32]++(t.nm++40::(Fh t.locals++41::32::123::10::(Sp.txts 1 t.body++[125,10])))
structure Gp where
 dz:Bool
 dt:Nat
 decls:List Dp
 tz:Bool
 tt:Nat
 thrs:List Tp
def Gp.row(p:Gp):List V:=[SL p.dz p.dt (p.decls.map Dp.row),SL p.tz p.tt (p.thrs.map Tp.row)]
def Il(p:Gp):List UInt8:=(p.decls.map fun d=>F5 d++[59,10]).flatten++(p.thrs.map Fx).flatten
structure CnG (p:Gp):Prop where
 decls:∀ d∈p.decls,CnD d
 thrs:∀ t∈p.thrs,∀ s∈t.body,CnS s
abbrev gR (p:Gp):List V:=[SL p.dz p.dt (p.decls.map Dp.row),SL p.tz p.tt (p.thrs.map Tp.row)]
abbrev gO (p:Gp):Ob:=.row (gR p) 34 0 0
abbrev wkR (p:Gp) (th:Int) (a b c:V):List V:=[SL p.dz p.dt (p.decls.map Dp.row),SL p.tz p.tt (p.thrs.map Tp.row),iV th,a,b,c]
abbrev Fc (p:Gp) (th:Int) (a b c:V):Ob:=.row (wkR p th a b c) 139 0 0
abbrev tR (x:Tp):List V:=[.str x.nm,iV x.line,SL x.lz x.lt (x.locals.map fun s=>[V.str s]),SL x.bz x.bt (x.body.map Sp.row)]
abbrev tO (x:Tp):Ob:=.row (tR x) 86 0 0
abbrev xR (x:Xp):List V:=[iV x.op,iV x.n,.str x.nm,SL x.z x.t (x.l.map Xp.row)]
abbrev xO (x:Xp):Ob:=.row (xR x) 98 0 0
abbrev sW (op line:Int) (nm arg:List UInt8) (iz:Bool) (it:Nat) (idx:List Xp) (xo xn:Int) (xm:List UInt8) (xz:Bool) (xt:Nat) (xl:List Xp) (bz:Bool) (bt:Nat) (body:List Sp) (ez:Bool) (et:Nat) (els:List Sp):List V:=[iV op,iV line,.str nm,.str arg,SL iz it (idx.map Xp.row),iV xo,iV xn,.str xm,SL xz xt (xl.map Xp.row),SL bz bt (body.map Sp.row),SL ez et (els.map Sp.row)]
abbrev sO (op line:Int) (nm arg:List UInt8) (iz:Bool) (it:Nat) (idx:List Xp) (xo xn:Int) (xm:List UInt8) (xz:Bool) (xt:Nat) (xl:List Xp) (bz:Bool) (bt:Nat) (body:List Sp) (ez:Bool) (et:Nat) (els:List Sp):Ob:=.row (sW op line nm arg iz it idx xo xn xm xz xt xl bz bt body ez et els) 100 0 0
abbrev sZ (op ln:Int) (nm arg:List UInt8):List V:=[iV op,iV ln,.str nm,.str arg,.nils,iV 0,iV 0,.str [],.nils,.nils,.nils]
abbrev sP (op ln:Int) (nm arg:List UInt8):Ob:=.row (sZ op ln nm arg) 100 0 0
abbrev zD:List V:=[iV 0,iV 0,.str [],iV 0,iV 0,.str []]
abbrev zO:Ob:=.row zD 82 0 0
abbrev zX:List V:=[iV 0,iV 0,.str [],.nils]
abbrev zY:Ob:=.row zX 98 0 0
abbrev mO (b:Nat) (th left:Int) (se tx ao lp:Bool) (u:V):Ob:=.row [.ptr b 0 0,iV th,iV left,.bool se,.bool tx,.bool ao,.bool lp,u] 93 0 0
structure Tk where
 kind:Int
 text:List UInt8
 line:Int
def Tk.row(t:Tk):List V:=[iV t.kind,.str t.text,iV t.line]
def Tk.zero:Tk:=⟨0,[],0⟩
def Jp(c:UInt8):Bool:=Lz c.toNat
def F7(c:UInt8):Bool:=Q6 c.toNat
def O3(c:UInt8):Bool:=Nj c.toNat
def twoS:List (List UInt8):=[[124,124],[38,38],[61,61],[33,61],[60,61],[62,61]]
def oneS:List UInt8:=[60,62,43,45,42,47,37,33,61,40,41,91,93,123,125,44,59]
def greatS:List UInt8:=[57,50,50,51,51,55,50,48,51,54,56,53,52,55,55,53,56,48,55]
def Lq(l:List UInt8):Nat:=
 if decide (2<=l.length)&&twoS.elem (l.take 2) then 2 else
 match l with
 | c::_=>if oneS.elem c then 1 else 0
 | []=>0
def Q2(w:List UInt8):Bool:=
 let d:=w.dropWhile (·==48)
 !(decide (19<d.length)||(decide (d.length=19)&&Op.bytesLess greatS d))
def Fa(c:UInt8)(r:List UInt8):List UInt8:=c::r.takeWhile O3
def Ez(c:UInt8)(r:List UInt8):List UInt8:=c::r.takeWhile F7
def Uy:List UInt8->Bool
 | d::_=>Jp d||d==95
 | []=>false
def M8:List UInt8->Option (Int × List UInt8)
 | []=>none
 | c::r=>
  if Jp c then(if 12<(Fa c r).length then none else some (if Hw (Fa c r) then 3 else 1,Fa c r))
  else if F7 c then(if Uy (r.dropWhile F7) then none else if Q2 (Ez c r) then some (2,Ez c r) else none)
  else if Lq (c::r)=0 then none else some (4,(c::r).take (Lq (c::r)))
def Er:Nat->Int->List UInt8->Option (List Tk)
 | _,_,[]=>some []
 | 0,_,_::_=>none
 | n+1,ln,c::r=>
  if c=10 then Er n (ln+1) r
  else if c=32\/c=9\/c=13 then Er n ln r
  else if c=47/\r.head?=some 47 then Er n ln ((c::r).dropWhile (· != 10))
  else match M8 (c::r) with
  | none=>none
  | some (k,w)=>(Er n ln ((c::r).drop w.length)).map fun l=>⟨k,w,ln⟩::l
/-! expressions -/
def A0(s:List UInt8):List Tk->Bool
 | t::_=>(t.kind==3||t.kind==4)&&t.text==s
 | []=>false
def opTab:List (List UInt8 × Int × Int):=[([124,124],18,1),([38,38],17,2),([61,61],11,3),([33,61],12,3),([60],13,3),([60,61],14,3),([62],15,3),([62,61],16,3),([43],6,4),([45],7,4),([42],8,5),([47],9,5),([37],10,5)]
def Ju(s:List UInt8):Int × Int:=(opTab.lookup s).getD (0,0)
def I5(qb:Nat):List Tk->Int
 | t::_=>if t.kind=4 then(if(Ju t.text).2=(qb:Int) then(Ju t.text).1 else 0) else 0
 | []=>0
def J6(w:List UInt8):Int:=
 match Lib.parseIntB 64 w with
 | .ok v=>v
 | _=>0
def Mp(op:Int)(x y:Xp):Xp:=⟨op,0,[],true,1,[x,y]⟩
def Rb(op:Int)(x:Xp):Xp:=⟨op,0,[],true,1,[x]⟩
mutual
def pe:Nat->Nat->List Tk->Option (Xp × List Tk)
 | 0,_,_=>none
 | n+1,qb,ts=>if 5<qb then pu n ts else
  match pe n (qb+1) ts with
  | none=>none
  | some (x,r)=>lp n qb x r
def lp:Nat->Nat->Xp->List Tk->Option (Xp × List Tk)
 | 0,_,_,_=>none
 | n+1,qb,x,ts=>if I5 qb ts=0 then some (x,ts) else
  match pe n (qb+1) ts.tail with
  | none=>none
  | some (y,r)=>if qb=3 then some (Mp (I5 qb ts) x y,r) else lp n qb (Mp (I5 qb ts) x y) r
def pu:Nat->List Tk->Option (Xp × List Tk)
 | 0,_=>none
 | n+1,ts=>if A0 [45] ts then(match pu n ts.tail with
   | none=>none
   | some (x,r)=>some (Rb 4 x,r))
  else if A0 [33] ts then(match pu n ts.tail with
   | none=>none
   | some (x,r)=>some (Rb 5 x,r))
  else pp n ts
def pp:Nat->List Tk->Option (Xp × List Tk)
 | 0,_=>none
 | _+1,[]=>none
 | n+1,t::ts=>if t.kind=2 then some (⟨1,J6 t.text,[],true,0,[]⟩,ts)
  else if t.kind=1 then
   (if A0 [91] ts then(match pe n 1 ts.tail with
    | none=>none
    | some (x,r)=>if A0 [93] r then some (⟨3,0,t.text,true,1,[x]⟩,r.tail) else none)
   else some (⟨2,0,t.text,true,0,[]⟩,ts))
  else if A0 [40] (t::ts) then(match pe n 1 ts with
   | none=>none
   | some (x,r)=>if A0 [41] r then some (x,r.tail) else none)
  else none
end
/-! statements -/
def wordTab:List (List UInt8 × Int):=[([105,102],2),([119,104,105,108,101],3),([108,111,99,107],4),([114,101,97,100],5),([119,114,105,116,101],6),([116,114,97,110,115,97,99,116,105,111,110],7),([97,116,111,109,105,99],8),([119,97,105,116],9),([110,111,116,105,102,121],10),([110,111,116,105,102,121,97,108,108],11),([115,112,97,119,110],12),([106,111,105,110],13),([115,101,116],14),([103,101,116],15)]
def Es(s:List UInt8):Int:=(wordTab.lookup s).getD 0
def Dg:List Tk->Option (List UInt8 × List Tk)
 | t::ts=>if t.kind=1 then some (t.text,ts) else none
 | []=>none
def H9:List Tk->Option (Int × List Tk)
 | t::ts=>if t.kind=2 then some (J6 t.text,ts) else none
 | []=>none
def Ea(s:List UInt8)(ts:List Tk):Option (List Tk):=if A0 s ts then some ts.tail else none
def Au(op line:Int):Sp:=⟨op,line,[],[],true,0,[],Xp.zero,true,0,[],true,0,[]⟩
def AK{p:Prop}(h:p:=by simp[Au]):p:=h
def Amy(n:Nat)(ts:List Tk):Option (List Xp × List Tk):=
 if A0 [91] ts then
  match pe n 1 ts.tail with
  | none=>none
  | some (x,r)=>(Ea [93] r).map fun r=>([x],r)
 else some ([],ts)
def U8(n:Nat)(line:Int)(ts:List Tk):Option (Sp × List Tk):=
 match Dg ts with
 | none=>none
 | some (nm,ts)=>
  match Amy n ts with
  | none=>none
  | some (ix,ts)=>
   match Ea [61] ts with
   | none=>none
   | some ts=>
    match pe n 1 ts with
    | none=>none
    | some (x,ts)=>(Ea [59] ts).map fun ts=>({ Au 1 line with nm:=nm,it:=ix.length,idx:=ix,ex:=x },ts)
mutual
def I7:Nat->List Tk->Option (Sp × List Tk)
 | 0,_=>none
 | _+1,[]=>none
 | n+1,t::ts=>
  if t.kind=1 then U8 n t.line (t::ts)
  else if t.kind=3 then
   (if Es t.text=0 then none
   else if Es t.text=2\/Es t.text=3 then
    (match pe n 1 ts with
    | none=>none
    | some (x,ts)=>
     match Fz n ts with
     | none=>none
     | some (b,ts)=>
      if Es t.text=2/\A0 [101,108,115,101] ts=true then
       (match Fz n ts.tail with
       | none=>none
       | some (e,ts)=>some ({ Au (Es t.text) t.line with ex:=x,body:=b,els:=e },ts))
      else some ({ Au (Es t.text) t.line with ex:=x,body:=b },ts))
   else if Es t.text=7\/Es t.text=8 then
    (match Fz n ts with
    | none=>none
    | some (b,ts)=>some ({ Au (Es t.text) t.line with body:=b },ts))
   else
    (match Dg ts with
    | none=>none
    | some (nm,ts)=>
     if Es t.text=4\/Es t.text=5\/Es t.text=6 then
      (match Fz n ts with
      | none=>none
      | some (b,ts)=>some ({ Au (Es t.text) t.line with nm:=nm,body:=b },ts))
     else if Es t.text=14 then
      (match pe n 1 ts with
      | none=>none
      | some (x,ts)=>(Ea [59] ts).map fun ts=>({ Au (Es t.text) t.line with nm:=nm,ex:=x },ts))
     else if Es t.text=15 then
      (match Dg ts with
      | none=>none
      | some (ar,ts)=>(Ea [59] ts).map fun ts=>({ Au (Es t.text) t.line with nm:=nm,arg:=ar },ts))
     else(Ea [59] ts).map fun ts=>({ Au (Es t.text) t.line with nm:=nm },ts)))
  else none
def Fz:Nat->List Tk->Option (List Sp × List Tk)
 | 0,_=>none
 | n+1,ts=>if A0 [123] ts then Ms n ts.tail else none
def Ms:Nat->List Tk->Option (List Sp × List Tk)
 | 0,_=>none
 | n+1,ts=>if A0 [125] ts then some ([],ts.tail) else
  match I7 n ts with
  | none=>none
  | some (s,r)=>
   match Ms n r with
   | none=>none
   | some (l,r)=>some (s::l,r)
end
/-! declarations, threads, programs -/
def declTab:List (List UInt8 × Int):=[([118,97,114],1),([118,111,108,97,116,105,108,101],2),([109,117,116,101,120],3),([114,119,108,111,99,107],4),([99,111,110,100],5),([102,117,116,117,114,101],6)]
def H6(s:List UInt8):Int:=(declTab.lookup s).getD 0
def W3(ts:List Tk):Option (Int × List Tk):=
 if A0 [91] ts then
  match H9 ts.tail with
  | none=>none
  | some (n,r)=>if n=0 then none else(Ea [93] r).map fun r=>(n,r)
 else some (0,ts)
def Sq(ts:List Tk):Option (Int × List Tk):=
 if A0 [61] ts then
  if A0 [45] ts.tail then(H9 ts.tail.tail).map fun p=>(-p.1,p.2) else H9 ts.tail
 else some (0,ts)
def Uz:List Tk->Option (Dp × List Tk)
 | []=>none
 | t::ts=>
  match Dg ts with
  | none=>none
  | some (nm,ts)=>
   if H6 t.text=1 then
    (match W3 ts with
    | none=>none
    | some (sz,ts)=>
       match Sq ts with
       | none=>none
       | some (i,ts)=>(Ea [59] ts).map fun ts=>(⟨1,t.line,nm,sz,i,[]⟩,ts))
   else if H6 t.text=2 then
    (match Sq ts with
    | none=>none
    | some (i,ts)=>(Ea [59] ts).map fun ts=>(⟨2,t.line,nm,0,i,[]⟩,ts))
   else if H6 t.text=5 then
    (match Dg ts with
    | none=>none
    | some (on,ts)=>(Ea [59] ts).map fun ts=>(⟨5,t.line,nm,0,0,on⟩,ts))
   else(Ea [59] ts).map fun ts=>(⟨H6 t.text,t.line,nm,0,0,[]⟩,ts)
def Sf:List Tk->Bool
 | t::_=>t.kind==3&&H6 t.text != 0
 | []=>false
def M9:Nat->List Tk->Option (List Dp × List Tk)
 | 0,_=>none
 | n+1,ts=>if Sf ts then
   (match Uz ts with
   | none=>none
   | some (d,r)=>
    match M9 n r with
    | none=>none
    | some (l,r)=>some (d::l,r))
  else some ([],ts)
def Nl:Nat->List Tk->Option (List (List UInt8) × List Tk)
 | 0,_=>none
 | n+1,ts=>
  match Dg ts with
  | none=>none
  | some (nm,ts)=>
   if A0 [44] ts then
    (match Nl n ts.tail with
    | none=>none
    | some (l,r)=>some (nm::l,r))
   else(Ea [41] ts).map fun ts=>([nm],ts)
def Alv(n:Nat)(ts:List Tk):Option (List (List UInt8) × List Tk):=if A0 [41] ts then some ([],ts.tail) else Nl n ts
def U9(n:Nat):List Tk->Option (Tp × List Tk)
 | []=>none
 | t::ts=>
  match Dg ts with
  | none=>none
  | some (nm,ts)=>
   match Ea [40] ts with
   | none=>none
   | some ts=>
    match Alv n ts with
    | none=>none
    | some (l,ts)=>
       match Fz n ts with
       | none=>none
       | some (b,ts)=>some (⟨nm,t.line,true,0,l,true,0,b⟩,ts)
def Agc:List UInt8:=[116,104,114,101,97,100]
def Nf(m:Nat):Nat->List Tk->Option (List Tp × List Tk)
 | 0,_=>none
 | n+1,ts=>if A0 Agc ts then
   (match U9 m ts with
   | none=>none
   | some (t,r)=>
    match Nf m n r with
    | none=>none
    | some (l,r)=>some (t::l,r))
  else some ([],ts)
def Ou(k:Nat):Nat:=10*k+20
def Aap(ts:List Tk):Option (Gp × List Tk):=
 match M9 (ts.length+1) ts with
 | none=>none
 | some (ds,r)=>
  match Nf (Ou ts.length) (ts.length+1) r with
  | none=>none
  | some (l,r)=>if l.isEmpty then none else some (⟨true,0,ds,true,0,l⟩,r)
def Ol(s:List UInt8):Option Gp:=
 if 4096<s.length then none else
 match Er s.length 1 s with
 | none=>none
 | some ts=>
  match Aap ts with
  | some (p,[])=>some p
  | _=>none
/-! the rows' flags say nothing -/
mutual
def Afp:Xp->Xp->Bool
 | ⟨op,n,nm,_,_,l⟩,⟨op',n',nm',_,_,l'⟩=>op==op'&&(n==n'&&(nm==nm'&&Uo l l'))
def Uo:List Xp->List Xp->Bool
 | [],[]=>true
 | x::l,y::l'=>Afp x y&&Uo l l'
 | [],_::_=>false
 | _::_,[]=>false
end
abbrev Kt:=Int × List UInt8
def Agd(o:Int × List Kt)(qc:Int):List Kt:=if Bu o.1<qc then(4,[40])::(o.2++[(4,[41])]) else o.2
def Ayc(op n:Int)(nm:List UInt8)(ts:List (Int × List Kt)):List Kt:=
 if op=1 then [(2,Cy n)] else if op=2 then [(1,nm)] else
 match ts with
 | [a]=>if op=3 then(1,nm)::(4,[91])::(a.2++[(4,[93])]) else(4,Cr op)::Agd a 6
 | [a,b]=>Agd a (Ik op)++(4,Cr op)::Agd b (Bu op+1)
 | _=>[]
mutual
def Xp.toks:Xp->List Kt
 | ⟨op,n,nm,_,_,l⟩=>Ayc op n nm (Xp.tokss l)
def Xp.tokss:List Xp->List (Int × List Kt)
 | []=>[]
 | x::l=>(x.op,x.toks)::Xp.tokss l
end
inductive ShE:Xp->Prop
 | num {n:Int} {z:Bool} {t:Nat}:0<=n/\n<=9223372036854775807->ShE ⟨1,n,[],z,t,[]⟩
 | name {nm:List UInt8} {z:Bool} {t:Nat}:B3 nm=true->ShE ⟨2,0,nm,z,t,[]⟩
 | idx {nm:List UInt8} {z:Bool} {t:Nat} {a:Xp}:B3 nm=true->ShE a->ShE ⟨3,0,nm,z,t,[a]⟩
 | un {op:Int} {z:Bool} {t:Nat} {a:Xp}:op=4\/op=5->ShE a->ShE ⟨op,0,[],z,t,[a]⟩
 | bin {op:Int} {z:Bool} {t:Nat} {a b:Xp}:6<=op/\op<=18->ShE a->ShE b->ShE ⟨op,0,[],z,t,[a,b]⟩
def A6q:((List.range 18).all fun i=>decide ((Cr ((i:Int)+1)).length<=2/\1<=Bu ((i:Int)+1)/\Bu ((i:Int)+1)<=7))=true:=by decide
def Bba{op:Int}(h:1<=op/\op<=18):∃ i:Nat,i<18/\op=(i:Int)+1:=⟨(op - 1).toNat,by omega,by omega⟩
theorem Auh{op:Int}(h:1<=op/\op<=18):(Cr op).length<=2/\1<=Bu op/\Bu op<=7:=by
 obtain⟨i,hi,rfl⟩:=Bba h;exact of_decide_eq_true (Cc.1 A6q i (Hi.2 hi))
def Awj{x:Xp}(h:ShE x):Cn x:=by
 induction h with
 | num h=>exact .num AA
 | name _=>exact .name
 | idx _ _ ih=>exact .idx ih
 | un h _ ih=>exact .un h ih
 | bin h _ _ ih1 ih2=>exact .bin h ih1 ih2
/-! what a shaped program has -/
def Awk(x:Xp):Prop:=x.op=0/\x.n=0/\x.nm=[]/\x.l=[]
def Gx(op:Int):Bool:=op==2||(op==3||(op==7||op==8))
def Fe(op:Int):Bool:=op==1||(op==2||(op==3||op==14))
inductive ShS:Sp->Prop
 | mk {s:Sp}:1<=s.op/\s.op<=15->(Gx s.op=true->s.nm=[])->(Gx s.op=false->B3 s.nm=true)->(s.op=15->B3 s.arg=true)->(s.op≠15->s.arg=[]) ->
   s.idx.length<=1->(s.op≠1->s.idx=[])->(∀ x∈s.idx,ShE x)->(Fe s.op=true->ShE s.ex)->(Fe s.op=false->Awk s.ex) ->
   (B6 s.op=false->s.body=[])->(s.op≠2->s.els=[])->(∀ x∈s.body,ShS x)->(∀ x∈s.els,ShS x)->ShS s
structure ShD (d:Dp):Prop where
 kind:1<=d.kind/\d.kind<=6
 nm:B3 d.nm=true
 size:0<=d.size/\d.size<=9223372036854775807/\(d.kind≠1->d.size=0)
 init : -9223372036854775808<d.init/\d.init<=9223372036854775807/\(d.kind≠1->d.kind≠2->d.init=0)
 on:(d.kind=5->B3 d.on=true)/\(d.kind≠5->d.on=[])
structure ShG (p:Gp):Prop where
 decls:∀ d∈p.decls,ShD d
 nms:∀ t∈p.thrs,B3 t.nm=true
 locs:∀ t∈p.thrs,∀ s∈t.locals,B3 s=true
 thrs:∀ t∈p.thrs,∀ s∈t.body,ShS s
 some:p.thrs≠[]
def Akr{s:Sp}(h:ShS s):CnS s:=by
 induction h with
 | mk h1 h2 h3 h4 h5 h6 h7 h8 h9 h10 h11 qf h13 h14 ih1 ih2=>
  refine .mk h1 h6 h7 (fun x hx=>Awj (h8 x hx)) (fun hv=>Awj (h9 ?_)) h11 qf ih1 ih2
  rcases hv with h | h | h | h<;>rw[h]<;>rfl
def Aks{p:Gp}(h:ShG p):CnG p:=⟨fun d hd=>let h:=h.decls d hd;⟨h.kind,h.size,by have:=h.init;omega,by have:=h.init;omega,h.init.2.2⟩,fun t ht s hs=>Akr (h.thrs t ht s hs)⟩
/-! equal apart from lines -/
mutual
def Alw:Sp->Sp->Bool
 | ⟨op,_,nm,arg,_,_,idx,ex,_,_,body,_,_,els⟩,⟨op',_,nm',arg',_,_,idx',ex',_,_,body',_,_,els'⟩=>op==op'&&(nm==nm'&&(arg==arg'&&(Afp ex ex'&&(Uo idx idx'&&(Z6 body body'&&Z6 els els')))))
def Z6:List Sp->List Sp->Bool
 | [],[]=>true
 | x::l,y::l'=>Alw x y&&Z6 l l'
 | [],_::_=>false
 | _::_,[]=>false
end
/-! tokens -/
def Bog(l:List Xp):List Kt:=match l with
 | a::_=>(4,[91])::(a.toks++[(4,[93])])
 | []=>[]
def Bmp(s:Sp):List Kt:=
 if s.op=1 then(1,s.nm)::(Bog s.idx++(4,[61])::s.ex.toks)
 else if s.op=2\/s.op=3 then(3,C9 s.op)::s.ex.toks
 else if s.op=7\/s.op=8 then [(3,C9 s.op)]
 else if s.op=14 then(3,C9 s.op)::(1,s.nm)::s.ex.toks
 else if s.op=15 then [(3,C9 s.op),(1,s.nm),(1,s.arg)]
 else [(3,C9 s.op),(1,s.nm)]
def Bmq:List UInt8:=[101,108,115,101]
mutual
def Sp.toks:Sp->List Kt
 | ⟨op,line,nm,arg,iz,it,idx,ex,bz,bt,body,ez,et,els⟩=>
  Bmp ⟨op,line,nm,arg,iz,it,idx,ex,bz,bt,body,ez,et,els⟩ ++
   if B6 op then(4,[123])::(Sp.tokss body++(4,[125])::(if els.isEmpty then [] else(3,Bmq)::(4,[123])::(Sp.tokss els++[(4,[125])]))) else [(4,[59])]
def Sp.tokss:List Sp->List Kt
 | []=>[]
 | x::l=>x.toks++Sp.tokss l
end
theorem Zj(p:UInt8->Bool):∀ l:List UInt8,(l.dropWhile p).length<=l.length
 | []=>Am _
 | c::r=>by
  rw[Abp]
  split
  .exact Nat.le_succ_of_le (Zj p r)
  omega
theorem Aui{c:UInt8}{r:List UInt8}(h:Lq (c::r)≠0):1<=Lq (c::r)/\Lq (c::r)<=(c::r).length:=by
 unfold Lq at h ⊢
 grind
def Ach{c:UInt8}{r:List UInt8}{k:Int}{w:List UInt8}(h:M8 (c::r)=some (k,w)):1<=w.length/\∃ q,c::r=w++q:=by
 unfold M8 at h;simp only at h
 split at h
 .split at h
  .cases h
  .cases h;exact⟨by simp[Fa],r.dropWhile O3,by simp[Fa]⟩
 .split at h
  .split at h
   .cases h
   .split at h
    .cases h;exact⟨by simp[Ez],r.dropWhile F7,by simp[Ez]⟩
    grind
  .split at h
   .cases h
   grind[Aui,List.take_append_drop]
def Yx:∀ (n m:Nat) (ln:Int) (l:List UInt8),l.length<=n->l.length<=m->Er n ln l=Er m ln l
 | n,m,ln,[],_,_=>by cases n<;>cases m<;>rfl
 | 0,_,_,_::_,h,_=>by simp at h
 | _+1,0,_,_::_,_,h=>by simp at h
 | n+1,m+1,ln,c::r,h1,h2=>by
  rw[Be]at h1 h2;unfold Er;by_cases e1:c=10
  .rw[if_pos e1,if_pos e1];exact Yx n m _ r AA AA
  rw[if_neg e1,if_neg e1];by_cases e2:c=32\/c=9\/c=13
  .rw[if_pos e2,if_pos e2];exact Yx n m _ r AA AA
  rw[if_neg e2,if_neg e2];by_cases e3:c=47/\r.head?=some 47
  .rw[if_pos e3,if_pos e3]
   have hd:((c::r).dropWhile (· != 10)).length<=r.length:=by
    rw[Abp,if_pos (by simp[e1])];exact Zj _ r
   exact Yx n m _ _ AA AA
  rw[if_neg e3,if_neg e3]
  cases hf:M8 (c::r) with
  | none=>rfl
  | some p=>
   obtain⟨k,w⟩:=p;have hw:=(Ach hf).1;simp only;rw[Yx n m ln _ (by grind) (by grind)]
def cons(ks:List Kt)(o:Option (List Kt)):Option (List Kt):=o.map fun l=>ks++l
def V1(c:UInt8)(r:List UInt8):M8 (c::r)=if Jp c then(if 12<(Fa c r).length then none else some (if Hw (Fa c r) then 3 else 1,Fa c r))
  else if F7 c then(if Uy (r.dropWhile F7) then none else if Q2 (Ez c r) then some (2,Ez c r) else none)
  else if Lq (c::r)=0 then none else some (4,(c::r).take (Lq (c::r))):=rfl
def A3m:((List.range 256).all fun n=>!Lz n||(decide (n≠10)&&(decide (n≠32)&&(decide (n≠9)&&(decide (n≠13)&&(decide (n≠47)&&(decide (n≠61)&&Nj n)))))))=true:=by decide +kernel
def W4{c:UInt8}{n:Nat}(hn:n<256)(h:c.toNat≠n):c≠UInt8.ofNat n:=by
 intro e
 simp_all
theorem Bbb{c:UInt8}(h:Jp c=true):(c≠10/\c≠32/\c≠9/\c≠13)/\c≠47/\c≠61/\O3 c=true:=by
 have:=Cc.1 A3m c.toNat (Hi.2 c.toNat_lt);unfold Jp at h;rw[h]at this;simp only[Ba,Ab1,Al,decide_eq_true_eq]at this;obtain⟨a1,a2,a3,a4,a5,a6,a7⟩:=this;exact⟨⟨W4 (n:=10) AM a1,W4 (n:=32) AM a2,W4 (n:=9) AM a3,W4 (n:=13) AM a4⟩,W4 (n:=47) AM a5,W4 (n:=61) AM a6,a7⟩
def A6r{l:List UInt8}(h:B3 l=true):∃ c cs,l=c::cs/\Jp c=true/\(∀ d∈cs,O3 d=true)/\(c::cs).length<=12/\Hw l=false:=by
 unfold B3 at h;simp only[Al,decide_eq_true_eq,Rh,Cc,Hi]at h;obtain⟨h1,h2,h3,h4⟩:=h
 cases l with
 | nil=>grind
 | cons c cs=>
  refine⟨c,cs,rfl,?_,fun d hd=>?_,h2,h3⟩
  .grind[Jt,Jp]
  .obtain⟨i,hi,rfl⟩:=List.mem_iff_getElem.1 hd;have:=h4 (i+1) (by grind);unfold Jt at this;simp only[List.getD_cons_succ]at this;rw[Fl,Cb hi]at this;simp only[X2]at this;unfold O3 Nj
   grind
def Bbc{op:Int}{z:Bool}{t:Nat}{a b:Xp}(h:6<=op/\op<=18):Xp.txt ⟨op,0,[],z,t,[a,b]⟩=Eh (a.op,a.txt) (Ik op)++32::(Cr op++32::Eh (b.op,b.txt) (Bu op+1)):=by
 simp only[Xp.txt,Xp.txts,Em]
 grind
def Bgq{op:Int}{z:Bool}{t:Nat}{a:Xp}(h:op=4\/op=5):Xp.txt ⟨op,0,[],z,t,[a]⟩=Cr op++Eh (a.op,a.txt) 6/\Xp.toks ⟨op,0,[],z,t,[a]⟩=(4,Cr op)::Agd (a.op,a.toks) 6:=by
 simp only[Xp.txt,Xp.txts,Em,Xp.toks,Xp.tokss,Ayc]
 grind
/-! declarations -/
/-! threads -/
/-! equal expressions have the same tokens and texts -/
mutual
theorem Ah7:∀ (x y:Xp),Afp x y=true->x.op=y.op/\x.toks=y.toks/\x.txt=y.txt
 | ⟨op,n,nm,z,t,l⟩,⟨op',n',nm',z',t',l'⟩,h=>by
  simp only[Afp,Al,beq_iff_eq]at h;obtain⟨rfl,rfl,rfl,h⟩:=h;obtain⟨h1,h2⟩:=Aoq l l' h
  simp_all [Xp.toks,Xp.txt]
theorem Aoq:∀ (l l':List Xp),Uo l l'=true->Xp.tokss l=Xp.tokss l'/\Xp.txts l=Xp.txts l'
 | [],[],_=>⟨rfl,rfl⟩
 | x::l,y::l',h=>by
  simp only[Uo,Al]at h;obtain⟨h1,h2,h3⟩:=Ah7 x y h.1;obtain⟨h4,h5⟩:=Aoq l l' h.2
  simp_all [Xp.tokss,Xp.txts]
 | [],_::_,h=>by cases h
 | _::_,[],h=>by cases h
end
/-! what is parsed has no more tokens than its text needs -/
def Bbd(s:List UInt8):Ju s=(0,0)\/((6<=(Ju s).1/\(Ju s).1<=18)/\(Ju s).2=Bu (Ju s).1):=by
 unfold Ju
 cases h:opTab.lookup s with
 | none=>grind
 | some p=>
  have hm:∃ k,(k,p)∈opTab:=by
   revert h;generalize opTab=l
   induction l with
   | nil=>grind
   | cons q l ih=>
    grind
  obtain⟨k,hk⟩:=hm;have qn:(opTab.all fun q=>decide ((6<=q.2.1/\q.2.1<=18)/\q.2.2=Bu q.2.1))=true:=by decide
  grind
def A6s{qb:Nat}{ts:List Tk}(h:I5 qb ts≠0):(6<=I5 qb ts/\I5 qb ts<=18)/\Bu (I5 qb ts)=qb/\ts.length=ts.tail.length+1:=by
 cases ts with
 | nil=>exact absurd rfl h
 | cons t ts=>
  simp only[I5]at h ⊢
  split at h
  .split at h
   .rename_i h1 h2;rw[if_pos h1,if_pos h2];rcases Bbd t.text with e | e
    .grind
    grind
   omega
  omega
/-! parentheses -/
def flatB(l:List UInt8):Prop:=∀ c∈l,c≠40/\c≠41
def A3n:((List.range 256).all fun i=>match (Lm (Oz TT PT 300) af98 [.int .u8 (i:Int)] []).bind fun p=>Eg p.2 p.1 with
  | some (.bool b)=>b==Lz i
  | _=>false)=true:=by kernel_rfl
def Pc(c:UInt8):Fn TT PT 98 [.int .u8 (c.toNat:Int)] (.bool (Jp c)):=by
 have hr:=Cc.1 A3n c.toNat (Hi.2 c.toNat_lt)
 split at hr
 .rename_i b hv;rw[show Jp c=b from(beq_iff_eq.1 hr).symm];exact R2 Tb T98 rfl rfl hv
 .cases hr
def A3o:((List.range 256).all fun i=>match (Lm (Oz TT PT 300) af100 [.int .u8 (i:Int)] []).bind fun p=>Eg p.2 p.1 with
  | some (.bool b)=>b==Q6 i
  | _=>false)=true:=by kernel_rfl
def Rv(c:UInt8):Fn TT PT 100 [.int .u8 (c.toNat:Int)] (.bool (F7 c)):=by
 have hr:=Cc.1 A3o c.toNat (Hi.2 c.toNat_lt)
 split at hr
 .rename_i b hv;rw[show F7 c=b from(beq_iff_eq.1 hr).symm];exact R2 Tb T100 rfl rfl hv
 .cases hr
def Aaq{p:UInt8->Bool}:∀ l:List UInt8,(∀ i,i<(l.takeWhile p).length->∃ x,l[i]?=some x/\p x=true)/\((l.takeWhile p).length<l.length->∃ x,l[(l.takeWhile p).length]?=some x/\p x=false)/\(l.takeWhile p).length<=l.length/\l.take (l.takeWhile p).length=l.takeWhile p
 | []=>⟨fun i h=>by simp at h,fun h=>by simp at h,by simp,rfl⟩
 | c::l=>by
  obtain⟨h1,h2,h3,h4⟩:=Aaq (p:=p) l;rw[Abq];by_cases hc:p c=true
  .rw[if_pos hc];refine⟨fun i hi=>?_,fun h=>?_,by grind,by simp[h4]⟩
   .cases i with
    | zero=>grind
    | succ i=>simp_all
   grind
  grind
def Hn{vs:List V}{σ:St}{v:V}(h:vs.all De=true)(he:V.tup vs=v):FR (.tup vs) σ v:=he ▸ Fq h
def Ss(c:UInt8)(n:Nat)(hn:n<256):(((c.toNat:Int))==(n:Int))=(c==UInt8.ofNat n):=by
 by_cases h:c=UInt8.ofNat n
 .simp_all [Nat.mod_eq_of_lt]
 .have:(c.toNat:Int)≠n:=fun e=>h (by
   have:c.toNat=n:=by omega
   exact UInt8.toNat_inj.1 (by simp_all [Nat.mod_eq_of_lt]))
  grind
def Awl(c:UInt8):O3 c=(Jp c||(F7 c||c==95)):=by
 unfold O3 Nj Jp F7;congr 2;have:=Ss c 95 AM
 grind
def nn(i:Nat):(0<=(i:Int))=True:=eq_true (X0 i)
def Ayd(s:List UInt8)(i:Nat)(h:i<=s.length):S4 (.str s) none (some (iV (i:Int)))=some (.str (s.take i)):=by
 rw[show S4 (.str s) none (some (iV (i:Int)))=(Ed none 0).bind fun a=>(Ed (some (iV (i:Int))) s.length).bind fun b=>if a<=b/\b<=s.length then some (V.str ((s.take b).drop a)) else none from rfl]
 simp_all [Ed]
set_option maxHeartbeats 2000000 in
def Bbe(c:UInt8)(r:List UInt8)(hl:(c::r).length<=4096):Fn TT PT 99 [.str (c::r)] (if 12<(Fa c r).length then .tup [.agg (Tk.row Tk.zero),iV 2] else .tup [.agg (Tk.row ⟨if Hw (Fa c r) then 3 else 1,Fa c r,0⟩),iV 0]):=by
 obtain⟨w1,w2,w3,w4⟩:=Aaq (p:=O3) r;have hW:(c::r).take (Fa c r).length=Fa c r:=by simp[Fa,w4]
 have ql:(Fa c r).length=(r.takeWhile O3).length+1:=by simp[Fa]
 rw[Be]at hl;generalize hn:(Fa c r).length=n at hW ql ⊢;refine Bg T99 rfl ?_;simp only[go_sem];refine Bb (α:=Nat) (fun i=>n - i) (fun i=>[(0,.str (c::r)),(2,.ptr 0 0 0),(4,iV (i:Int))]) (fun _=>[.row [iV 0,.str [],iV 0] 121 0 0]) (fun i=>1<=i/\i<=n) ?_ 1 ⟨by omega,by omega⟩;rintro i ⟨h1,h2⟩ ih;refine Ay Bl8 ?_;by_cases hi:i<n
 .obtain⟨x,x1,x2⟩:=w1 (i - 1) AA
  have x3:(c::r)[i]?=some x:=by
   obtain⟨j,rfl⟩:∃ j,i=j+1:=⟨i - 1,by omega⟩;simpa using x1
  have g1:decide ((i:Int)<((r.length+1:Nat):Int))=true:=by simp;omega
  have qi:((x.toNat:Int)==95)=(x==95):=Ss x 95 AM;have qg:=Aq (show i<r.length+1 by omega);have qk:=Aw (show i<9223372036854775807 by omega);rw[Awl]at x2;by_cases hL:Jp x=true
  .simp only[go_sem,qg,nn,x3];refine Ab (Pc x) AB ?_;simp only[go_sem,hL,qk];exact Ai (ih (i+1) AA AA) rfl
  .have hL:Jp x=false:=by simpa using hL
   by_cases hD:F7 x=true
   .simp only[go_sem,qg,nn,x3];refine Ab (Pc x) AB ?_;simp only[go_sem,hL,nn,x3];refine Ab (Rv x) AB ?_;simp only[go_sem,hD,qk];exact Ai (ih (i+1) AA AA) rfl
   .have hD:F7 x=false:=by simpa using hD
    rw[hL,hD]at x2;simp only[Ab1]at x2;simp only[go_sem,qg,nn,x3];refine Ab (Pc x) AB ?_;simp only[go_sem,hL,nn,x3];refine Ab (Rv x) AB ?_;simp only[go_sem,hD,nn,x3,qi,x2,qk];exact Ai (ih (i+1) AA AA) rfl
 .obtain rfl:i=n:=by omega
  have gi:(i<=r.length+1)=True:=eq_true AA
  have qo:S4 (.str (c::r)) none (some (iV (i:Int)))=some (.str (Fa c r)):=by
   rw[Ayd _ _ (by grind),hW]
  by_cases hb:i<r.length+1
  .obtain⟨x,x1,x2⟩:=w2 AA;have x3:(c::r)[i]?=some x:=by rw[ql];simpa using x1
   have qi:((x.toNat:Int)==95)=(x==95):=Ss x 95 AM;have qg:=Aq (show i<r.length+1 by omega);rw[Awl]at x2;simp only[Bool.or_eq_false_iff]at x2;obtain⟨hL,hD,h9⟩:=x2;simp only[go_sem,qg,nn,x3];refine Ab (Pc x) AB ?_;simp only[go_sem,hL,nn,x3];refine Ab (Rv x) AB ?_;simp only[go_sem,hD,nn,x3,qi,h9];by_cases qf:12<i
   .have qe:decide ((12:Int)<(i:Int))=true:=by simp;omega
    rw[if_pos qf];simp only[go_sem,gt_iff_lt,qe];exact Hn AB rfl
   .have qe:decide ((12:Int)<(i:Int))=false:=by simp;omega
    rw[if_neg qf];simp only[go_sem,gt_iff_lt,qe,nn,gi,hW,As,true_and,if_true,C5];refine Fu P145 rfl AH ?_;cases hk:Hw (Fa c r)
    .simp only[go_sem,hk,nn,gi,hW,As,true_and,if_true,C5];exact Hn AB rfl
    .simp only[go_sem,hk,nn,gi,hW,As,true_and,if_true,C5];exact Hn AB rfl
  .simp only[go_sem,Bj (show r.length+1<=i by omega)];by_cases qf:12<i
   .have qe:decide ((12:Int)<(i:Int))=true:=by simp;omega
    rw[if_pos qf];simp only[go_sem,gt_iff_lt,qe];exact Hn AB rfl
   .have qe:decide ((12:Int)<(i:Int))=false:=by simp;omega
    rw[if_neg qf];simp only[go_sem,gt_iff_lt,qe,nn,gi,hW,As,true_and,if_true,C5];refine Fu P145 rfl AH ?_;cases hk:Hw (Fa c r)
    .simp only[go_sem,hk,nn,gi,hW,As,true_and,if_true,C5];exact Hn AB rfl
    .simp only[go_sem,hk,nn,gi,hW,As,true_and,if_true,C5];exact Hn AB rfl
def Ip(qa:Nat)(l:List UInt8):Nat:=l.foldl (fun a c=>a*10+(c.toNat - 48)) qa
def La(l:List UInt8):Prop:=∀ c∈l,F7 c=true
theorem Ael(qa:Nat):Ip qa []=qa:=rfl
theorem Aem(qa:Nat)(c:UInt8)(r:List UInt8):Ip qa (c::r)=Ip (qa*10+(c.toNat - 48)) r:=by grind[Ip]
def Up{c:UInt8}{l:List UInt8}(h:La (c::l)):La l:=fun d hd=>h d (Dl _ hd)
def Bgr{c:UInt8}(h:F7 c=true):48<=c.toNat/\c.toNat<=57:=by
 grind[F7,Q6]
def Wq{c:UInt8}{l:List UInt8}(h:La (c::l)):48<=c.toNat/\c.toNat<=57:=Bgr (h c Cz)
def Zk:∀ (l:List UInt8) (qa:Nat),qa*10 ^ l.length<=Ip qa l
 | [],qa=>by grind[Ael]
 | c::l,qa=>by
  have:=Zk l (qa*10+(c.toNat - 48));have h1:qa*10*10 ^ l.length<=(qa*10+(c.toNat - 48))*10 ^ l.length:=E4 _ AA;have e:qa*10 ^ (l.length+1)=qa*10*10 ^ l.length:=by rw[Nat.pow_succ,Ahf (10 ^ l.length),Nat.mul_assoc]
  rw[Be,e];exact Dd h1 this
def Adv:∀ (l:List UInt8) (qa:Nat),La l->Ip qa l<(qa+1)*10 ^ l.length
 | [],qa,_=>by grind[Ael]
 | c::l,qa,h=>by
  have:=Adv l (qa*10+(c.toNat - 48)) (Up h);have hc:=Wq h;have h1:(qa*10+(c.toNat - 48)+1)*10 ^ l.length<=(qa*10+10)*10 ^ l.length:=E4 _ AA;have e:(qa+1)*10 ^ (l.length+1)=(qa*10+10)*10 ^ l.length:=by rw[Nat.pow_succ,Ahf (10 ^ l.length),<-Nat.mul_assoc,show(qa+1)*10=qa*10+10 by omega]
  rw[Be,e];exact O8 this h1
def Ary:∀ (a b:List UInt8) (qa:Nat),La a->La b->a.length=b.length->Op.bytesLess a b=decide (Ip qa a<Ip qa b)
 | [],[],qa,_,_,_=>by simp[Op.bytesLess]
 | [],_::_,_,_,_,h=>by simp at h
 | _::_,[],_,_,_,h=>by simp at h
 | x::a,y::b,qa,ha,hb,h=>by
  have hx:=Wq ha;have hy:=Wq hb;have hl:a.length=b.length:=by simpa using h
  simp only[Op.bytesLess];by_cases h1:x<y
  .have qm:x.toNat<y.toNat:=h1;rw[decide_eq_true h1,Bool.true_or]
   symm
   rw[decide_eq_true_eq];have p1:=Adv a (qa*10+(x.toNat - 48)) (Up ha);have p2:=Zk b (qa*10+(y.toNat - 48));have p3:(qa*10+(x.toNat - 48)+1)*10 ^ a.length<=(qa*10+(y.toNat - 48))*10 ^ a.length:=E4 _ AA
   grind[Aem]
  .rw[decide_eq_false h1,Ab1];have qm:y.toNat<=x.toNat:=Nat.le_of_not_lt h1;by_cases h2:x=y
   .subst h2;rw[beq_self_eq_true,Ab0];exact Ary a b _ (Up ha) (Up hb) hl
   .have qr:y.toNat<x.toNat:=by
     have:x.toNat≠y.toNat:=fun e=>h2 (UInt8.toNat_inj.1 e)
     omega
    rw[beq_eq_false_iff_ne.2 h2,Vn]
    symm
    rw[decide_eq_false_iff_not];have p1:=Adv b (qa*10+(y.toNat - 48)) (Up hb);have p2:=Zk a (qa*10+(x.toNat - 48));have p3:(qa*10+(y.toNat - 48)+1)*10 ^ b.length<=(qa*10+(x.toNat - 48))*10 ^ b.length:=E4 _ AA
    grind[Aem]
def Arz:∀ (l:List UInt8),Ip 0 (l.dropWhile (·==48))=Ip 0 l
 | []=>rfl
 | c::l=>by
  rw[Abp]
  split
  .rename_i h;have hc:c=48:=by simpa using h
   subst hc;rw[Arz l];rfl
  .rfl
def Ap1:∀ {l:List UInt8},La l->La (l.dropWhile (·==48))/\∀ c r,l.dropWhile (·==48)=c::r->49<=c.toNat
 | [],_=>⟨fun _ h=>by simp at h,fun c r h=>by simp at h⟩
 | c::l,h=>by
  rw[Abp]
  split
  .exact Ap1 (Up h)
  .rename_i hc;refine⟨h,fun d r e=>?_⟩;cases e;have:=Wq h;have h2:c.toNat≠48:=fun e=>hc (by simp[UInt8.toNat_inj.1 (show c.toNat=(48:UInt8).toNat from e)])
   omega
def Ap2{w:List UInt8}(h:La w):Q2 w=decide (Ip 0 w<=9223372036854775807):=by
 obtain⟨h1,h2⟩:=Ap1 h;rw[<-Arz w];unfold Q2;simp only;generalize w.dropWhile (·==48)=d at h1 h2 ⊢;have hg:Ip 0 greatS=9223372036854775807:=by decide
 have qp:La greatS:=fun c hc=>by
  have:greatS.all F7=true:=by decide
  grind
 by_cases hl:19<d.length
 .rw[decide_eq_true hl,Bool.true_or,Ba]
  symm
  rw[decide_eq_false_iff_not]
  match d,hl,h1,h2 with
  | c::r,hl,h1,h2=>
   have hc:=h2 c r rfl;have qu:=Zk r (0*10+(c.toNat - 48));simp only[Aem,Ael];have:10 ^ 19<=10 ^ r.length:=Nat.pow_le_pow_right AM (by grind);have h3:1*10 ^ r.length<=(0*10+(c.toNat - 48))*10 ^ r.length:=E4 _ AA;omega
 .rw[decide_eq_false hl,Ab1];by_cases qj:d.length=19
  .rw[decide_eq_true qj,Ab0,Ary greatS d 0 qp h1 (by rw[qj];rfl),hg]
   grind
  .rw[decide_eq_false qj,Vn,Bc]
   symm
   rw[decide_eq_true_eq];have qt:=Adv d 0 h1;have:10 ^ d.length<=10 ^ 18:=Nat.pow_le_pow_right AM AA;omega
def Bbf(l:List UInt8)(qa:Nat):qa<=Ip qa l:=by
 have:=Zk l qa;have h:1<=10 ^ l.length:=Nat.one_le_pow _ _ AM;have:=Nat.mul_le_mul_left qa h;omega
def pum:∀ (l:List UInt8) (qa:Nat),La l->Ip qa l<=18446744073709551615->Lib.parseUintM 18446744073709551615 qa l=.ok (Ip qa l)
 | [],_,_,_=>rfl
 | c::l,qa,h,hv=>by
  have hc:=Wq h;have qs:=Bbf l (qa*10+(c.toNat - 48));simp only[Aem,Ael]at hv ⊢;rw[Lib.parseUintM,if_pos hc,if_neg AA,if_neg AA];exact pum l _ (Up h) hv
theorem Azm{c:UInt8}{l:List UInt8}(h:La (c::l))(hv:Ip 0 (c::l)<=9223372036854775807):Lib.parseIntB 64 (c::l)=.ok (Ip 0 (c::l):Int):=by
 have hc:=Wq h;have hp:=pum (c::l) 0 h AA;unfold Lib.parseIntB;simp only;rw[if_neg AA];unfold Lib.parseUintB
 grind
theorem Ar0{c:UInt8}{l:List UInt8}(h:La (c::l))(hv:Ip 0 (c::l)<=9223372036854775807):J6 (c::l)=(Ip 0 (c::l):Int):=by
 grind[J6,Azm]
