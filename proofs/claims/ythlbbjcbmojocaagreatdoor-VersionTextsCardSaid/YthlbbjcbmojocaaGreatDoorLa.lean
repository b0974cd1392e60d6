/- Plain: tokens, what scanning a text gives, what parsing tokens gives. -/
import Derived.Lib.ParseIntB
import Derived.Test.YthlbbjcbmojocaaGreatDoorGe
set_option linter.all false
namespace Go.Proofs.YthlbbjcbmojocaaGreatDoor.KM
open Go
structure Tk where
 kind:Int
 text:List UInt8
 line:Int
def Tk.row(t:Tk):List V:=[iV t.kind,.str t.text,iV t.line]
def Tk.zero:Tk:=⟨0,[],0⟩
def Hr(c:UInt8):Bool:=Jy c.toNat
def E3(c:UInt8):Bool:=Pu c.toNat
def Me(c:UInt8):Bool:=Lf c.toNat
def twoS:List (List UInt8):=[[124,124],[38,38],[61,61],[33,61],[60,61],[62,61]]
def oneS:List UInt8:=[60,62,43,45,42,47,37,33,61,40,41,91,93,123,125,44,59]
def greatS:List UInt8:=[57,50,50,51,51,55,50,48,51,54,56,53,52,55,55,53,56,48,55]
def Iq(l:List UInt8):Nat:=
 if decide (2<=l.length)&&twoS.elem (l.take 2) then 2 else
 match l with
 | c::_=>if oneS.elem c then 1 else 0
 | []=>0
def N4(w:List UInt8):Bool:=
 let d:=w.dropWhile (·==48)
 !(decide (19<d.length)||(decide (d.length=19)&&Op.bytesLess greatS d))
def Ej(c:UInt8)(r:List UInt8):List UInt8:=c::r.takeWhile Me
def Ea(c:UInt8)(r:List UInt8):List UInt8:=c::r.takeWhile E3
def Rf:List UInt8->Bool
 | d::_=>Hr d||d==95
 | []=>false
def K7:List UInt8->Option (Int × List UInt8)
 | []=>none
 | c::r=>
  if Hr c then(if 12<(Ej c r).length then none else some (if Gv (Ej c r) then 3 else 1,Ej c r))
  else if E3 c then(if Rf (r.dropWhile E3) then none else if N4 (Ea c r) then some (2,Ea c r) else none)
  else if Iq (c::r)=0 then none else some (4,(c::r).take (Iq (c::r)))
def D3:Nat->Int->List UInt8->Option (List Tk)
 | _,_,[]=>some []
 | 0,_,_::_=>none
 | n+1,ln,c::r=>
  if c=10 then D3 n (ln+1) r
  else if c=32\/c=9\/c=13 then D3 n ln r
  else if c=47/\r.head?=some 47 then D3 n ln ((c::r).dropWhile (· != 10))
  else match K7 (c::r) with
  | none=>none
  | some (k,w)=>(D3 n ln ((c::r).drop w.length)).map fun l=>⟨k,w,ln⟩::l
/-! expressions -/
def Ar(s:List UInt8):List Tk->Bool
 | t::_=>(t.kind==3||t.kind==4)&&t.text==s
 | []=>false
def opTab:List (List UInt8 × Int × Int):=[([124,124],18,1),([38,38],17,2),([61,61],11,3),([33,61],12,3),([60],13,3),([60,61],14,3),([62],15,3),([62,61],16,3),([43],6,4),([45],7,4),([42],8,5),([47],9,5),([37],10,5)]
def Hs(s:List UInt8):Int × Int:=(opTab.lookup s).getD (0,0)
def Gu(qb:Nat):List Tk->Int
 | t::_=>if t.kind=4 then(if(Hs t.text).2=(qb:Int) then(Hs t.text).1 else 0) else 0
 | []=>0
def H9(w:List UInt8):Int:=
 match Lib.parseIntB 64 w with
 | .ok v=>v
 | _=>0
def J0(op:Int)(x y:Xp):Xp:=⟨op,0,[],true,1,[x,y]⟩
def Nd(op:Int)(x:Xp):Xp:=⟨op,0,[],true,1,[x]⟩
mutual
def pe:Nat->Nat->List Tk->Option (Xp × List Tk)
 | 0,_,_=>none
 | n+1,qb,ts=>if 5<qb then pu n ts else
  match pe n (qb+1) ts with
  | none=>none
  | some (x,r)=>lp n qb x r
def lp:Nat->Nat->Xp->List Tk->Option (Xp × List Tk)
 | 0,_,_,_=>none
 | n+1,qb,x,ts=>if Gu qb ts=0 then some (x,ts) else
  match pe n (qb+1) ts.tail with
  | none=>none
  | some (y,r)=>if qb=3 then some (J0 (Gu qb ts) x y,r) else lp n qb (J0 (Gu qb ts) x y) r
def pu:Nat->List Tk->Option (Xp × List Tk)
 | 0,_=>none
 | n+1,ts=>if Ar [45] ts then(match pu n ts.tail with
   | none=>none
   | some (x,r)=>some (Nd 4 x,r))
  else if Ar [33] ts then(match pu n ts.tail with
   | none=>none
   | some (x,r)=>some (Nd 5 x,r))
  else pp n ts
def pp:Nat->List Tk->Option (Xp × List Tk)
 | 0,_=>none
 | _+1,[]=>none
 | n+1,t::ts=>if t.kind=2 then some (⟨1,H9 t.text,[],true,0,[]⟩,ts)
  else if t.kind=1 then
   (if Ar [91] ts then(match pe n 1 ts.tail with
    | none=>none
    | some (x,r)=>if Ar [93] r then some (⟨3,0,t.text,true,1,[x]⟩,r.tail) else none)
   else some (⟨2,0,t.text,true,0,[]⟩,ts))
  else if Ar [40] (t::ts) then(match pe n 1 ts with
   | none=>none
   | some (x,r)=>if Ar [41] r then some (x,r.tail) else none)
  else none
end
/-! statements -/
def wordTab:List (List UInt8 × Int):=[([105,102],2),([119,104,105,108,101],3),([108,111,99,107],4),([114,101,97,100],5),([119,114,105,116,101],6),([116,114,97,110,115,97,99,116,105,111,110],7),([97,116,111,109,105,99],8),([119,97,105,116],9),([110,111,116,105,102,121],10),([110,111,116,105,102,121,97,108,108],11),([115,112,97,119,110],12),([106,111,105,110],13),([115,101,116],14),([103,101,116],15)]
def D4(s:List UInt8):Int:=(wordTab.lookup s).getD 0
def C3:List Tk->Option (List UInt8 × List Tk)
 | t::ts=>if t.kind=1 then some (t.text,ts) else none
 | []=>none
def Gg:List Tk->Option (Int × List Tk)
 | t::ts=>if t.kind=2 then some (H9 t.text,ts) else none
 | []=>none
def Dm(s:List UInt8)(ts:List Tk):Option (List Tk):=if Ar s ts then some ts.tail else none
def An(op line:Int):Sp:=⟨op,line,[],[],true,0,[],Xp.zero,true,0,[],true,0,[]⟩
def Ahb(n:Nat)(ts:List Tk):Option (List Xp × List Tk):=
 if Ar [91] ts then
  match pe n 1 ts.tail with
  | none=>none
  | some (x,r)=>(Dm [93] r).map fun r=>([x],r)
 else some ([],ts)
def Rm(n:Nat)(line:Int)(ts:List Tk):Option (Sp × List Tk):=
 match C3 ts with
 | none=>none
 | some (nm,ts)=>
  match Ahb n ts with
  | none=>none
  | some (ix,ts)=>
   match Dm [61] ts with
   | none=>none
   | some ts=>
    match pe n 1 ts with
    | none=>none
    | some (x,ts)=>(Dm [59] ts).map fun ts=>({ An 1 line with nm:=nm,it:=ix.length,idx:=ix,ex:=x },ts)
mutual
def He:Nat->List Tk->Option (Sp × List Tk)
 | 0,_=>none
 | _+1,[]=>none
 | n+1,t::ts=>
  if t.kind=1 then Rm n t.line (t::ts)
  else if t.kind=3 then
   (if D4 t.text=0 then none
   else if D4 t.text=2\/D4 t.text=3 then
    (match pe n 1 ts with
    | none=>none
    | some (x,ts)=>
     match Ex n ts with
     | none=>none
     | some (b,ts)=>
      if D4 t.text=2/\Ar [101,108,115,101] ts=true then
       (match Ex n ts.tail with
       | none=>none
       | some (e,ts)=>some ({ An (D4 t.text) t.line with ex:=x,body:=b,els:=e },ts))
      else some ({ An (D4 t.text) t.line with ex:=x,body:=b },ts))
   else if D4 t.text=7\/D4 t.text=8 then
    (match Ex n ts with
    | none=>none
    | some (b,ts)=>some ({ An (D4 t.text) t.line with body:=b },ts))
   else
    (match C3 ts with
    | none=>none
    | some (nm,ts)=>
     if D4 t.text=4\/D4 t.text=5\/D4 t.text=6 then
      (match Ex n ts with
      | none=>none
      | some (b,ts)=>some ({ An (D4 t.text) t.line with nm:=nm,body:=b },ts))
     else if D4 t.text=14 then
      (match pe n 1 ts with
      | none=>none
      | some (x,ts)=>(Dm [59] ts).map fun ts=>({ An (D4 t.text) t.line with nm:=nm,ex:=x },ts))
     else if D4 t.text=15 then
      (match C3 ts with
      | none=>none
      | some (ar,ts)=>(Dm [59] ts).map fun ts=>({ An (D4 t.text) t.line with nm:=nm,arg:=ar },ts))
     else(Dm [59] ts).map fun ts=>({ An (D4 t.text) t.line with nm:=nm },ts)))
  else none
def Ex:Nat->List Tk->Option (List Sp × List Tk)
 | 0,_=>none
 | n+1,ts=>if Ar [123] ts then Iy n ts.tail else none
def Iy:Nat->List Tk->Option (List Sp × List Tk)
 | 0,_=>none
 | n+1,ts=>if Ar [125] ts then some ([],ts.tail) else
  match He n ts with
  | none=>none
  | some (s,r)=>
   match Iy n r with
   | none=>none
   | some (l,r)=>some (s::l,r)
end
/-! declarations, threads, programs -/
def declTab:List (List UInt8 × Int):=[([118,97,114],1),([118,111,108,97,116,105,108,101],2),([109,117,116,101,120],3),([114,119,108,111,99,107],4),([99,111,110,100],5),([102,117,116,117,114,101],6)]
def Ge(s:List UInt8):Int:=(declTab.lookup s).getD 0
def Ud(ts:List Tk):Option (Int × List Tk):=
 if Ar [91] ts then
  match Gg ts.tail with
  | none=>none
  | some (n,r)=>if n=0 then none else(Dm [93] r).map fun r=>(n,r)
 else some (0,ts)
def Pg(ts:List Tk):Option (Int × List Tk):=
 if Ar [61] ts then
  if Ar [45] ts.tail then(Gg ts.tail.tail).map fun p=>(-p.1,p.2) else Gg ts.tail
 else some (0,ts)
def Rg:List Tk->Option (Dp × List Tk)
 | []=>none
 | t::ts=>
  match C3 ts with
  | none=>none
  | some (nm,ts)=>
   if Ge t.text=1 then
    (match Ud ts with
    | none=>none
    | some (sz,ts)=>
       match Pg ts with
       | none=>none
       | some (i,ts)=>(Dm [59] ts).map fun ts=>(⟨1,t.line,nm,sz,i,[]⟩,ts))
   else if Ge t.text=2 then
    (match Pg ts with
    | none=>none
    | some (i,ts)=>(Dm [59] ts).map fun ts=>(⟨2,t.line,nm,0,i,[]⟩,ts))
   else if Ge t.text=5 then
    (match C3 ts with
    | none=>none
    | some (on,ts)=>(Dm [59] ts).map fun ts=>(⟨5,t.line,nm,0,0,on⟩,ts))
   else(Dm [59] ts).map fun ts=>(⟨Ge t.text,t.line,nm,0,0,[]⟩,ts)
def O9:List Tk->Bool
 | t::_=>t.kind==3&&Ge t.text != 0
 | []=>false
def Js:Nat->List Tk->Option (List Dp × List Tk)
 | 0,_=>none
 | n+1,ts=>if O9 ts then
   (match Rg ts with
   | none=>none
   | some (d,r)=>
    match Js n r with
    | none=>none
    | some (l,r)=>some (d::l,r))
  else some ([],ts)
def J1:Nat->List Tk->Option (List (List UInt8) × List Tk)
 | 0,_=>none
 | n+1,ts=>
  match C3 ts with
  | none=>none
  | some (nm,ts)=>
   if Ar [44] ts then
    (match J1 n ts.tail with
    | none=>none
    | some (l,r)=>some (nm::l,r))
   else(Dm [41] ts).map fun ts=>([nm],ts)
def Af8(n:Nat)(ts:List Tk):Option (List (List UInt8) × List Tk):=if Ar [41] ts then some ([],ts.tail) else J1 n ts
def Rn(n:Nat):List Tk->Option (Tp × List Tk)
 | []=>none
 | t::ts=>
  match C3 ts with
  | none=>none
  | some (nm,ts)=>
   match Dm [40] ts with
   | none=>none
   | some ts=>
    match Af8 n ts with
    | none=>none
    | some (l,ts)=>
       match Ex n ts with
       | none=>none
       | some (b,ts)=>some (⟨nm,t.line,true,0,l,true,0,b⟩,ts)
def Abx:List UInt8:=[116,104,114,101,97,100]
def Jw(m:Nat):Nat->List Tk->Option (List Tp × List Tk)
 | 0,_=>none
 | n+1,ts=>if Ar Abx ts then
   (match Rn m ts with
   | none=>none
   | some (t,r)=>
    match Jw m n r with
    | none=>none
    | some (l,r)=>some (t::l,r))
  else some ([],ts)
def La(k:Nat):Nat:=10*k+20
def Xd(ts:List Tk):Option (Gp × List Tk):=
 match Js (ts.length+1) ts with
 | none=>none
 | some (ds,r)=>
  match Jw (La ts.length) (ts.length+1) r with
  | none=>none
  | some (l,r)=>if l.isEmpty then none else some (⟨true,0,ds,true,0,l⟩,r)
def Lz(s:List UInt8):Option Gp:=
 if 4096<s.length then none else
 match D3 s.length 1 s with
 | none=>none
 | some ts=>
  match Xd ts with
  | some (p,[])=>some p
  | _=>none
/-! the rows' flags say nothing -/
mutual
def Abf:Xp->Xp->Bool
 | ⟨op,n,nm,_,_,l⟩,⟨op',n',nm',_,_,l'⟩=>op==op'&&(n==n'&&(nm==nm'&&Q6 l l'))
def Q6:List Xp->List Xp->Bool
 | [],[]=>true
 | x::l,y::l'=>Abf x y&&Q6 l l'
 | [],_::_=>false
 | _::_,[]=>false
end
abbrev Kt:=Int × List UInt8
def Aby(o:Int × List Kt)(qp:Int):List Kt:=if Bo o.1<qp then(4,[40])::(o.2++[(4,[41])]) else o.2
def Apt(op n:Int)(nm:List UInt8)(ts:List (Int × List Kt)):List Kt:=
 if op=1 then [(2,Ct n)] else if op=2 then [(1,nm)] else
 match ts with
 | [a]=>if op=3 then(1,nm)::(4,[91])::(a.2++[(4,[93])]) else(4,Ci op)::Aby a 6
 | [a,b]=>Aby a (Gq op)++(4,Ci op)::Aby b (Bo op+1)
 | _=>[]
mutual
def Xp.toks:Xp->List Kt
 | ⟨op,n,nm,_,_,l⟩=>Apt op n nm (Xp.tokss l)
def Xp.tokss:List Xp->List (Int × List Kt)
 | []=>[]
 | x::l=>(x.op,x.toks)::Xp.tokss l
end
inductive ShE:Xp->Prop
 | num {n:Int} {z:Bool} {t:Nat}:0<=n/\n<=9223372036854775807->ShE ⟨1,n,[],z,t,[]⟩
 | name {nm:List UInt8} {z:Bool} {t:Nat}:B3 nm=true->ShE ⟨2,0,nm,z,t,[]⟩
 | idx {nm:List UInt8} {z:Bool} {t:Nat} {a:Xp}:B3 nm=true->ShE a->ShE ⟨3,0,nm,z,t,[a]⟩
 | un {op:Int} {z:Bool} {t:Nat} {a:Xp}:op=4\/op=5->ShE a->ShE ⟨op,0,[],z,t,[a]⟩
 | bin {op:Int} {z:Bool} {t:Nat} {a b:Xp}:6<=op/\op<=18->ShE a->ShE b->ShE ⟨op,0,[],z,t,[a,b]⟩
def Avx:((List.range 18).all fun i=>decide ((Ci ((i:Int)+1)).length<=2/\1<=Bo ((i:Int)+1)/\Bo ((i:Int)+1)<=7))=true:=by decide
def Azp{op:Int}(h:1<=op/\op<=18):∃ i:Nat,i<18/\op=(i:Int)+1:=⟨(op - 1).toNat,by omega,by omega⟩
def Amx{op:Int}(h:1<=op/\op<=18):(Ci op).length<=2/\1<=Bo op/\Bo op<=7:=by
 obtain⟨i,hi,rfl⟩:=Azp h;exact of_decide_eq_true (Bi.1 Avx i (E5.2 hi))
def Aoh{x:Xp}(h:ShE x):Cn x:=by
 induction h with
 | num h=>exact .num (by omega)
 | name _=>exact .name
 | idx _ _ ih=>exact .idx ih
 | un h _ ih=>exact .un h ih
 | bin h _ _ qi qh=>exact .bin h qi qh
/-! what a shaped program has -/
def Aoi(x:Xp):Prop:=x.op=0/\x.n=0/\x.nm=[]/\x.l=[]
def Fq(op:Int):Bool:=op==2||(op==3||(op==7||op==8))
def D1(op:Int):Bool:=op==1||(op==2||(op==3||op==14))
inductive ShS:Sp->Prop
 | mk {s:Sp}:1<=s.op/\s.op<=15->(Fq s.op=true->s.nm=[])->(Fq s.op=false->B3 s.nm=true)->(s.op=15->B3 s.arg=true)->(s.op≠15->s.arg=[]) ->
   s.idx.length<=1->(s.op≠1->s.idx=[])->(∀ x∈s.idx,ShE x)->(D1 s.op=true->ShE s.ex)->(D1 s.op=false->Aoi s.ex) ->
   (Bu s.op=false->s.body=[])->(s.op≠2->s.els=[])->(∀ x∈s.body,ShS x)->(∀ x∈s.els,ShS x)->ShS s
structure ShD (d:Dp):Prop where
 kind:1<=d.kind/\d.kind<=6
 nm:B3 d.nm=true
 size:0<=d.size/\d.size<=9223372036854775807/\(d.kind≠1->d.size=0)
 init : -9223372036854775808<d.init/\d.init<=9223372036854775807/\(d.kind≠1->d.kind≠2->d.init=0)
 on:(d.kind=5->B3 d.on=true)/\(d.kind≠5->d.on=[])
structure ShG (p:Gp):Prop where
 decls:∀ d∈p.decls,ShD d
 nms:∀ t∈p.thrs,B3 t.nm=true
 locs:∀ t∈p.thrs,∀ s∈t.locals,B3 s=true
 thrs:∀ t∈p.thrs,∀ s∈t.body,ShS s
 some:p.thrs≠[]
def Afg{s:Sp}(h:ShS s):CnS s:=by
 induction h with
 | mk h1 h2 h3 h4 h5 h6 h7 h8 h9 h10 h11 qy h13 qq qi qh=>
  refine .mk h1 h6 h7 (fun x hx=>Aoh (h8 x hx)) (fun hv=>Aoh (h9 ?_)) h11 qy qi qh
  rcases hv with h | h | h | h<;>rw[h]<;>rfl
def Aao{p:Gp}(h:ShG p):CnG p:=⟨fun d hd=>let h:=h.decls d hd;⟨h.kind,h.size,by have:=h.init;omega,by have:=h.init;omega,h.init.2.2⟩,fun t ht s hs=>Afg (h.thrs t ht s hs)⟩
/-! equal apart from lines -/
mutual
def Af9:Sp->Sp->Bool
 | ⟨op,_,nm,arg,_,_,idx,ex,_,_,body,_,_,els⟩,⟨op',_,nm',arg',_,_,idx',ex',_,_,body',_,_,els'⟩=>op==op'&&(nm==nm'&&(arg==arg'&&(Abf ex ex'&&(Q6 idx idx'&&(Wz body body'&&Wz els els')))))
def Wz:List Sp->List Sp->Bool
 | [],[]=>true
 | x::l,y::l'=>Af9 x y&&Wz l l'
 | [],_::_=>false
 | _::_,[]=>false
end
/-! tokens -/
def A8x(l:List Xp):List Kt:=match l with
 | a::_=>(4,[91])::(a.toks++[(4,[93])])
 | []=>[]
def A7j(s:Sp):List Kt:=
 if s.op=1 then(1,s.nm)::(A8x s.idx++(4,[61])::s.ex.toks)
 else if s.op=2\/s.op=3 then(3,Cy s.op)::s.ex.toks
 else if s.op=7\/s.op=8 then [(3,Cy s.op)]
 else if s.op=14 then(3,Cy s.op)::(1,s.nm)::s.ex.toks
 else if s.op=15 then [(3,Cy s.op),(1,s.nm),(1,s.arg)]
 else [(3,Cy s.op),(1,s.nm)]
def A7k:List UInt8:=[101,108,115,101]
mutual
def Sp.toks:Sp->List Kt
 | ⟨op,line,nm,arg,iz,it,idx,ex,bz,bt,body,ez,et,els⟩=>
  A7j ⟨op,line,nm,arg,iz,it,idx,ex,bz,bt,body,ez,et,els⟩ ++
   if Bu op then(4,[123])::(Sp.tokss body++(4,[125])::(if els.isEmpty then [] else(3,A7k)::(4,[123])::(Sp.tokss els++[(4,[125])]))) else [(4,[59])]
def Sp.tokss:List Sp->List Kt
 | []=>[]
 | x::l=>x.toks++Sp.tokss l
end
def Wi(p:UInt8->Bool):∀ l:List UInt8,(l.dropWhile p).length<=l.length
 | []=>Ah _
 | c::r=>by
  rw[X8]
  split
  .exact Nat.le_succ_of_le (Wi p r)
  .exact Ah _
def Amy{c:UInt8}{r:List UInt8}(h:Iq (c::r)≠0):1<=Iq (c::r)/\Iq (c::r)<=(c::r).length:=by
 unfold Iq at h ⊢
 split
 .rename_i h1;simp only[Af,decide_eq_true_eq]at h1;exact⟨by omega,h1.1⟩
 .simp only[Ak]
  split
  .omega
  .rename_i h1 h2;rw[if_neg h1]at h;simp only[if_neg h2]at h;exact absurd rfl h
def Yx{c:UInt8}{r:List UInt8}{k:Int}{w:List UInt8}(h:K7 (c::r)=some (k,w)):1<=w.length/\∃ q,c::r=w++q:=by
 unfold K7 at h;simp only at h
 split at h
 .split at h
  .cases h
  .cases h;exact⟨by simp[Ej],r.dropWhile Me,by simp[Ej,List.takeWhile_append_dropWhile]⟩
 .split at h
  .split at h
   .cases h
   .split at h
    .cases h;exact⟨by simp[Ea],r.dropWhile E3,by simp[Ea,List.takeWhile_append_dropWhile]⟩
    .cases h
  .split at h
   .cases h
   .rename_i hs;have:=Amy hs;cases h;exact⟨by rw[Hw];omega,(c::r).drop (Iq (c::r)),(J7 _ _).symm⟩
def Vy:∀ (n m:Nat) (ln:Int) (l:List UInt8),l.length<=n->l.length<=m->D3 n ln l=D3 m ln l
 | n,m,ln,[],_,_=>by cases n<;>cases m<;>rfl
 | 0,_,_,_::_,h,_=>by simp at h
 | _+1,0,_,_::_,_,h=>by simp at h
 | n+1,m+1,ln,c::r,h1,h2=>by
  rw[Ak]at h1 h2;unfold D3;by_cases e1:c=10
  .rw[if_pos e1,if_pos e1];exact Vy n m _ r (by omega) (by omega)
  rw[if_neg e1,if_neg e1];by_cases e2:c=32\/c=9\/c=13
  .rw[if_pos e2,if_pos e2];exact Vy n m _ r (by omega) (by omega)
  rw[if_neg e2,if_neg e2];by_cases e3:c=47/\r.head?=some 47
  .rw[if_pos e3,if_pos e3]
   have hd:((c::r).dropWhile (· != 10)).length<=r.length:=by
    rw[X8,if_pos (by simp[e1])];exact Wi _ r
   exact Vy n m _ _ (by omega) (by omega)
  rw[if_neg e3,if_neg e3]
  cases hf:K7 (c::r) with
  | none=>rfl
  | some p=>
   obtain⟨k,w⟩:=p;have hw:=(Yx hf).1;simp only;rw[Vy n m ln _ (by rw[Dn,Ak];omega) (by rw[Dn,Ak];omega)]
def cons(ks:List Kt)(o:Option (List Kt)):Option (List Kt):=o.map fun l=>ks++l
def Sm(c:UInt8)(r:List UInt8):K7 (c::r)=if Hr c then(if 12<(Ej c r).length then none else some (if Gv (Ej c r) then 3 else 1,Ej c r))
  else if E3 c then(if Rf (r.dropWhile E3) then none else if N4 (Ea c r) then some (2,Ea c r) else none)
  else if Iq (c::r)=0 then none else some (4,(c::r).take (Iq (c::r))):=rfl
def Atl:((List.range 256).all fun n=>!Jy n||(decide (n≠10)&&(decide (n≠32)&&(decide (n≠9)&&(decide (n≠13)&&(decide (n≠47)&&(decide (n≠61)&&Lf n)))))))=true:=by decide +kernel
def Ue{c:UInt8}{n:Nat}(hn:n<256)(h:c.toNat≠n):c≠UInt8.ofNat n:=by
 intro e;subst e;exact h (by simp[UInt8.toNat_ofNat,U5 hn])
def Azq{c:UInt8}(h:Hr c=true):(c≠10/\c≠32/\c≠9/\c≠13)/\c≠47/\c≠61/\Me c=true:=by
 have:=Bi.1 Atl c.toNat (E5.2 c.toNat_lt);unfold Hr at h;rw[h]at this;simp only[Au,Va,Af,decide_eq_true_eq]at this;obtain⟨a1,a2,a3,a4,a5,a6,a7⟩:=this;exact⟨⟨Ue (n:=10) (by decide) a1,Ue (n:=32) (by decide) a2,Ue (n:=9) (by decide) a3,Ue (n:=13) (by decide) a4⟩,Ue (n:=47) (by decide) a5,Ue (n:=61) (by decide) a6,a7⟩
def Avy{l:List UInt8}(h:B3 l=true):∃ c cs,l=c::cs/\Hr c=true/\(∀ d∈cs,Me d=true)/\(c::cs).length<=12/\Gv l=false:=by
 unfold B3 at h;simp only[Af,decide_eq_true_eq,Iz,Bi,E5]at h;obtain⟨h1,h2,h3,h4⟩:=h
 cases l with
 | nil=>simp at h1
 | cons c cs=>
  refine⟨c,cs,rfl,?_,fun d hd=>?_,h2,h3⟩
  .have:=h4 0 (by simp);unfold Mh at this;simpa[Hr] using this
  .obtain⟨i,hi,rfl⟩:=List.mem_iff_getElem.1 hd;have:=h4 (i+1) (by simp;omega);unfold Mh at this;simp only[List.getD_cons_succ]at this;rw[As,A2 hi]at this;simp only[U6]at this;unfold Me Lf;simp only[Hx,Af]at this ⊢;rcases this with h | ⟨-,h | h⟩
   .exact .inl h
   .exact .inr (.inr h)
   .exact .inr (.inl h)
def Azr{op:Int}{z:Bool}{t:Nat}{a b:Xp}(h:6<=op/\op<=18):Xp.txt ⟨op,0,[],z,t,[a,b]⟩=Dr (a.op,a.txt) (Gq op)++32::(Ci op++32::Dr (b.op,b.txt) (Bo op+1)):=by
 simp only[Xp.txt,Xp.txts,Dv];rw[if_neg (by omega),if_neg (by omega)]
def A3r{op:Int}{z:Bool}{t:Nat}{a:Xp}(h:op=4\/op=5):Xp.txt ⟨op,0,[],z,t,[a]⟩=Ci op++Dr (a.op,a.txt) 6/\Xp.toks ⟨op,0,[],z,t,[a]⟩=(4,Ci op)::Aby (a.op,a.toks) 6:=by
 simp only[Xp.txt,Xp.txts,Dv,Xp.toks,Xp.tokss,Apt];rw[if_neg (by omega),if_neg (by omega),if_neg (by omega),if_neg (by omega),if_neg (by omega),if_neg (by omega)];exact⟨rfl,rfl⟩
def Gi(qa:Nat)(l:List UInt8):Nat:=l.foldl (fun a c=>a*10+(c.toNat - 48)) qa
def Iv(l:List UInt8):Prop:=∀ c∈l,E3 c=true
def Tm(qa:Nat):Gi qa []=qa:=rfl
def Aap(qa:Nat)(c:UInt8)(r:List UInt8):Gi qa (c::r)=Gi (qa*10+(c.toNat - 48)) r:=by unfold Gi;rw[List.foldl_cons]
def Q7{c:UInt8}{l:List UInt8}(h:Iv (c::l)):Iv l:=fun d hd=>h d (Dj _ hd)
def A3s{c:UInt8}(h:E3 c=true):48<=c.toNat/\c.toNat<=57:=by
 unfold E3 Pu at h;simpa using h
def Tn{c:UInt8}{l:List UInt8}(h:Iv (c::l)):48<=c.toNat/\c.toNat<=57:=A3s (h c Dy)
def Wj:∀ (l:List UInt8) (qa:Nat),qa*10 ^ l.length<=Gi qa l
 | [],qa=>by rw[Tm];simp
 | c::l,qa=>by
  have:=Wj l (qa*10+(c.toNat - 48));have h1:qa*10*10 ^ l.length<=(qa*10+(c.toNat - 48))*10 ^ l.length:=Fo _ (by omega);have e:qa*10 ^ (l.length+1)=qa*10*10 ^ l.length:=by rw[Nat.pow_succ,Sb (10 ^ l.length),Nat.mul_assoc]
  rw[Ak,e];exact Cv h1 this
def Z4:∀ (l:List UInt8) (qa:Nat),Iv l->Gi qa l<(qa+1)*10 ^ l.length
 | [],qa,_=>by rw[Tm];simp
 | c::l,qa,h=>by
  have:=Z4 l (qa*10+(c.toNat - 48)) (Q7 h);have hc:=Tn h;have h1:(qa*10+(c.toNat - 48)+1)*10 ^ l.length<=(qa*10+10)*10 ^ l.length:=Fo _ (by omega);have e:(qa+1)*10 ^ (l.length+1)=(qa*10+10)*10 ^ l.length:=by rw[Nat.pow_succ,Sb (10 ^ l.length),<-Nat.mul_assoc,show(qa+1)*10=qa*10+10 by omega]
  rw[Ak,e];exact Rx this h1
def Akz:∀ (a b:List UInt8) (qa:Nat),Iv a->Iv b->a.length=b.length->Op.bytesLess a b=decide (Gi qa a<Gi qa b)
 | [],[],qa,_,_,_=>by simp[Op.bytesLess]
 | [],_::_,_,_,_,h=>by simp at h
 | _::_,[],_,_,_,h=>by simp at h
 | x::a,y::b,qa,ha,hb,h=>by
  have hx:=Tn ha;have hy:=Tn hb;have hl:a.length=b.length:=by simpa using h
  simp only[Op.bytesLess];by_cases h1:x<y
  .have qA:x.toNat<y.toNat:=h1;rw[decide_eq_true h1,Bool.true_or]
   symm
   rw[decide_eq_true_eq];have p1:=Z4 a (qa*10+(x.toNat - 48)) (Q7 ha);have p2:=Wj b (qa*10+(y.toNat - 48));have p3:(qa*10+(x.toNat - 48)+1)*10 ^ a.length<=(qa*10+(y.toNat - 48))*10 ^ a.length:=Fo _ (by omega);simp only[Aap,Tm];rw[hl]at p1 p3;omega
  .rw[decide_eq_false h1,Va];have qA:y.toNat<=x.toNat:=Nat.le_of_not_lt h1;by_cases h2:x=y
   .subst h2;rw[beq_self_eq_true,Acu];exact Akz a b _ (Q7 ha) (Q7 hb) hl
   .have qL:y.toNat<x.toNat:=by
     have:x.toNat≠y.toNat:=fun e=>h2 (UInt8.toNat_inj.1 e)
     omega
    rw[beq_eq_false_iff_ne.2 h2,R8]
    symm
    rw[decide_eq_false_iff_not];have p1:=Z4 b (qa*10+(y.toNat - 48)) (Q7 hb);have p2:=Wj a (qa*10+(x.toNat - 48));have p3:(qa*10+(y.toNat - 48)+1)*10 ^ b.length<=(qa*10+(x.toNat - 48))*10 ^ b.length:=Fo _ (by omega);simp only[Aap,Tm];rw[hl]at p2;omega
def Ak0:∀ (l:List UInt8),Gi 0 (l.dropWhile (·==48))=Gi 0 l
 | []=>rfl
 | c::l=>by
  rw[X8]
  split
  .rename_i h;have hc:c=48:=by simpa using h
   subst hc;rw[Ak0 l];rfl
  .rfl
def Ajo:∀ {l:List UInt8},Iv l->Iv (l.dropWhile (·==48))/\∀ c r,l.dropWhile (·==48)=c::r->49<=c.toNat
 | [],_=>⟨fun _ h=>by simp at h,fun c r h=>by simp at h⟩
 | c::l,h=>by
  rw[X8]
  split
  .exact Ajo (Q7 h)
  .rename_i hc;refine⟨h,fun d r e=>?_⟩;cases e;have:=Tn h;have h2:c.toNat≠48:=fun e=>hc (by simp[UInt8.toNat_inj.1 (show c.toNat=(48:UInt8).toNat from e)])
   omega
def Ajp{w:List UInt8}(h:Iv w):N4 w=decide (Gi 0 w<=9223372036854775807):=by
 obtain⟨h1,h2⟩:=Ajo h;rw[<-Ak0 w];unfold N4;simp only;generalize w.dropWhile (·==48)=d at h1 h2 ⊢;have hg:Gi 0 greatS=9223372036854775807:=by decide
 have qB:Iv greatS:=fun c hc=>by
  have:greatS.all E3=true:=by decide
  exact Bi.1 this c hc
 by_cases hl:19<d.length
 .rw[decide_eq_true hl,Bool.true_or,Au]
  symm
  rw[decide_eq_false_iff_not]
  match d,hl,h1,h2 with
  | c::r,hl,h1,h2=>
   have hc:=h2 c r rfl;have qO:=Wj r (0*10+(c.toNat - 48));simp only[Aap,Tm];have:10 ^ 19<=10 ^ r.length:=Nat.pow_le_pow_right (by decide) (by simp at hl;omega);have h3:1*10 ^ r.length<=(0*10+(c.toNat - 48))*10 ^ r.length:=Fo _ (by omega);omega
 .rw[decide_eq_false hl,Va];by_cases qr:d.length=19
  .rw[decide_eq_true qr,Acu,Akz greatS d 0 qB h1 (by rw[qr];rfl),hg];by_cases hv:9223372036854775807<Gi 0 d
   .rw[decide_eq_true hv]
    symm
    rw[Au,decide_eq_false_iff_not];omega
   .rw[decide_eq_false hv]
    symm
    rw[Aw,decide_eq_true_eq];omega
  .rw[decide_eq_false qr,R8,Aw]
   symm
   rw[decide_eq_true_eq];have qN:=Z4 d 0 h1;have:10 ^ d.length<=10 ^ 18:=Nat.pow_le_pow_right (by decide) (by omega);omega
def Azs(l:List UInt8)(qa:Nat):qa<=Gi qa l:=by
 have:=Wj l qa;have h:1<=10 ^ l.length:=Nat.one_le_pow _ _ (by decide);have:=Nat.mul_le_mul_left qa h;omega
def pum:∀ (l:List UInt8) (qa:Nat),Iv l->Gi qa l<=18446744073709551615->Lib.parseUintM 18446744073709551615 qa l=.ok (Gi qa l)
 | [],_,_,_=>rfl
 | c::l,qa,h,hv=>by
  have hc:=Tn h;have qM:=Azs l (qa*10+(c.toNat - 48));simp only[Aap,Tm]at hv ⊢;rw[Lib.parseUintM,if_pos hc,if_neg (by omega),if_neg (by omega)];exact pum l _ (Q7 h) hv
def Aqj{c:UInt8}{l:List UInt8}(h:Iv (c::l))(hv:Gi 0 (c::l)<=9223372036854775807):Lib.parseIntB 64 (c::l)=.ok (Gi 0 (c::l):Int):=by
 have hc:=Tn h;have hp:=pum (c::l) 0 h (by omega);unfold Lib.parseIntB;simp only;rw[if_neg (by omega)];unfold Lib.parseUintB;rw[if_neg (by simp),show(2 ^ 64 - 1:Nat)=18446744073709551615 by decide,hp];simp only;rw[if_neg (by omega),if_neg (by omega),if_neg (by omega)]
def Ak1{c:UInt8}{l:List UInt8}(h:Iv (c::l))(hv:Gi 0 (c::l)<=9223372036854775807):H9 (c::l)=(Gi 0 (c::l):Int):=by
 unfold H9;rw[Aqj h hv]
/-! declarations -/
/-! threads -/
/-! equal expressions have the same tokens and texts -/
mutual
theorem Adr:∀ (x y:Xp),Abf x y=true->x.op=y.op/\x.toks=y.toks/\x.txt=y.txt
 | ⟨op,n,nm,z,t,l⟩,⟨op',n',nm',z',t',l'⟩,h=>by
  simp only[Abf,Af,beq_iff_eq]at h;obtain⟨rfl,rfl,rfl,h⟩:=h;obtain⟨h1,h2⟩:=Aio l l' h;simp only[Xp.toks,Xp.txt,h1,h2];exact⟨trivial,trivial,trivial⟩
theorem Aio:∀ (l l':List Xp),Q6 l l'=true->Xp.tokss l=Xp.tokss l'/\Xp.txts l=Xp.txts l'
 | [],[],_=>⟨rfl,rfl⟩
 | x::l,y::l',h=>by
  simp only[Q6,Af]at h;obtain⟨h1,h2,h3⟩:=Adr x y h.1;obtain⟨h4,h5⟩:=Aio l l' h.2;simp only[Xp.tokss,Xp.txts,h1,h2,h3,h4,h5];exact⟨trivial,trivial⟩
 | [],_::_,h=>by cases h
 | _::_,[],h=>by cases h
end
/-! what is parsed has no more tokens than its text needs -/
def Azt(s:List UInt8):Hs s=(0,0)\/((6<=(Hs s).1/\(Hs s).1<=18)/\(Hs s).2=Bo (Hs s).1):=by
 unfold Hs
 cases h:opTab.lookup s with
 | none=>exact .inl rfl
 | some p=>
  have hm:∃ k,(k,p)∈opTab:=by
   revert h;generalize opTab=l
   induction l with
   | nil=>intro h;cases h
   | cons q l ih=>
    intro h;obtain⟨k,v⟩:=q;rw[Yh]at h
    split at h
    .cases h;exact⟨k,Dy⟩
    .obtain⟨k',hk⟩:=ih h;exact⟨k',Dj _ hk⟩
  obtain⟨k,hk⟩:=hm;have qs:(opTab.all fun q=>decide ((6<=q.2.1/\q.2.1<=18)/\q.2.2=Bo q.2.1))=true:=by decide
  exact .inr (by simpa using Bi.1 qs _ hk)
def Avz{qb:Nat}{ts:List Tk}(h:Gu qb ts≠0):(6<=Gu qb ts/\Gu qb ts<=18)/\Bo (Gu qb ts)=qb/\ts.length=ts.tail.length+1:=by
 cases ts with
 | nil=>exact absurd rfl h
 | cons t ts=>
  simp only[Gu]at h ⊢
  split at h
  .split at h
   .rename_i h1 h2;rw[if_pos h1,if_pos h2];rcases Azt t.text with e | e
    .rw[e]at h;exact absurd rfl h
    .exact⟨e.1,by rw[<-e.2,h2],by simp⟩
   .exact absurd rfl h
  .exact absurd rfl h
/-! parentheses -/
def flatB(l:List UInt8):Prop:=∀ c∈l,c≠40/\c≠41
def Aaq{p:UInt8->Bool}:∀ {l:List UInt8} {x:UInt8},x∈l.takeWhile p->p x=true
 | [],x,h=>by cases h
 | c::l,x,h=>by
  rw[X9]at h
  split at h
  .rename_i hc;rcases Bj.1 h with rfl | h
   .exact hc
   .exact Aaq h
  .cases h
def Dl(ts:List Tk):Prop:=∀ t∈ts,(t.kind=1->B3 t.text=true)/\(t.kind=2->0<=H9 t.text/\H9 t.text<=9223372036854775807)
def C5{a b:List Tk}(h:Dl b)(hs:a <:+ b):Dl a:=fun t ht=>h t (hs.subset ht)
def wt(C:Nat)(ts:List Tk):Nat:=C*ts.length
def Q1(C:Nat)(t:Tk)(ts:List Tk):wt C (t::ts)=C+wt C ts:=by unfold wt;rw[Ak,Nat.mul_add];omega
def K4{s:List UInt8}{ts:List Tk}{C:Nat}(h:Ar s ts=true):ts.tail <:+ ts/\ts.tail.length+1=ts.length/\wt C ts=C+wt C ts.tail:=by
 cases ts with
 | nil=>cases h
 | cons t r=>exact⟨Qh t r,rfl,Q1 C t r⟩
def Azu{qb:Nat}{ts:List Tk}{C:Nat}(h:Gu qb ts≠0):ts.tail <:+ ts/\ts.tail.length+1=ts.length/\wt C ts=C+wt C ts.tail:=by
 cases ts with
 | nil=>exact absurd rfl h
 | cons t r=>exact⟨Qh t r,rfl,Q1 C t r⟩
def Rh{l:List UInt8}(h:B3 l=true):l.length<=12:=by
 obtain⟨c,cs,rfl,-,-,h,-⟩:=Avy h;exact h
def Atm{op:Int}(h:6<=op/\op<=18)(x y:Xp):(J0 op x y).txt.length<=x.txt.length+y.txt.length+8:=by
 unfold J0;rw[Azr h];have h1:=(Lu (x.op,x.txt) (Gq op)).2;have h2:=(Lu (y.op,y.txt) (Bo op+1)).2;have h3:=(Amx (op:=op) ⟨by omega,by omega⟩).1;simp only at h1 h2;simp only[Aj,Ak];omega
def Av0{op:Int}(h:op=4\/op=5)(x:Xp):(Nd op x).txt.length<=x.txt.length+4:=by
 unfold Nd;rw[(A3r h).1];have h1:=(Lu (x.op,x.txt) 6).2;have h3:=(Amx (op:=op) ⟨by omega,by omega⟩).1;simp only at h1;simp only[Aj];omega
def XQ(C:Nat)(ts:List Tk)(x:Xp)(r:List Tk):Prop:=ShE x/\r <:+ ts/\r.length<ts.length/\x.txt.length+wt C r<=wt C ts
def Sw{C:Nat}(hC:25<=C):∀ n,(∀ qb ts x r,Dl ts->pe n qb ts=some (x,r)->XQ C ts x r) /\
  (∀ qb x0 ts x r,Dl ts->ShE x0->lp n qb x0 ts=some (x,r)->ShE x/\r <:+ ts/\r.length<=ts.length/\x.txt.length+wt C r<=x0.txt.length+wt C ts) /\
  (∀ ts x r,Dl ts->pu n ts=some (x,r)->XQ C ts x r)/\(∀ ts x r,Dl ts->pp n ts=some (x,r)->XQ C ts x r)
 | 0=>⟨fun _ _ _ _ _ h=>by simp[pe]at h,fun _ _ _ _ _ _ _ h=>by simp[lp]at h,fun _ _ _ _ h=>by simp[pu]at h,fun _ _ _ _ h=>by simp[pp]at h⟩
 | n+1=>by
  obtain⟨qi,qh,qo,qJ⟩:=Sw hC n;refine⟨fun qb ts x r ht h=>?_,fun qb x0 ts x r ht h0 h=>?_,fun ts x r ht h=>?_,fun ts x r ht h=>?_⟩
  .rw[pe]at h
   split at h
   .exact qo ts x r ht h
   .split at h
    .cases h
    .rename_i y q hy;obtain⟨a1,a2,a3,a4⟩:=qi _ _ _ _ ht hy;obtain⟨b1,b2,b3,b4⟩:=qh _ _ _ _ _ (C5 ht a2) a1 h;exact⟨b1,b2.trans a2,by omega,by omega⟩
  .rw[lp]at h
   split at h
   .cases h;exact⟨h0,Acm _,Ah _,Ah _⟩
   .rename_i ho;obtain⟨t1,t2,t3⟩:=Azu (C:=C) ho;obtain⟨o1,-,-⟩:=Avz ho
    split at h
    .cases h
    .rename_i y q hy;obtain⟨a1,a2,a3,a4⟩:=qi _ _ _ _ (C5 ht t1) hy;have hs:ShE (J0 (Gu qb ts) x0 y):=.bin o1 h0 a1;have hb:=Atm o1 x0 y
     split at h
     .cases h;exact⟨hs,a2.trans t1,by omega,by omega⟩
     .obtain⟨b1,b2,b3,b4⟩:=qh _ _ _ _ _ (C5 (C5 ht t1) a2) hs h;exact⟨b1,(b2.trans a2).trans t1,by omega,by omega⟩
  .have un:∀ (op:Int),op=4\/op=5->∀ s,Ar s ts=true->(match pu n ts.tail with
     | none=>none
     | some (x,r)=>some (Nd op x,r))=some (x,r)->XQ C ts x r:=fun op ho s hs h=>by
    obtain⟨t1,t2,t3⟩:=K4 (C:=C) hs
    split at h
    .cases h
    .rename_i y q hy;cases h;obtain⟨a1,a2,a3,a4⟩:=qo _ _ _ (C5 ht t1) hy;have:=Av0 ho y;exact⟨.un ho a1,a2.trans t1,by omega,by omega⟩
   rw[pu]at h
   split at h
   .rename_i hs;exact un 4 (.inl rfl) _ hs h
   .split at h
    .rename_i hs;exact un 5 (.inr rfl) _ hs h
    .exact qJ ts x r ht h
  .cases ts with
   | nil=>simp[pp]at h
   | cons t ts=>
    have hw:=Q1 C t ts;have qd:=Qh t ts;have qf:=C5 ht qd;obtain⟨k1,k2⟩:=ht t Dy;rw[pp]at h
    split at h
    .rename_i hk;cases h;refine⟨.num (k2 hk),qd,by simp,?_⟩;have:=Td (H9 t.text);rw[Ez];simp only[Dv,if_true];omega
    .split at h
     .rename_i hk;have hn:=k1 hk;have qP:=Rh hn
      split at h
      .rename_i hs;obtain⟨t1,t2,t3⟩:=K4 (C:=C) hs
       split at h
       .cases h
       .rename_i y q hy;obtain⟨a1,a2,a3,a4⟩:=qi _ _ _ _ (C5 qf t1) hy
        split at h
        .rename_i qn;obtain⟨u1,u2,u3⟩:=K4 (C:=C) qn;cases h;refine⟨.idx hn a1,((u1.trans a2).trans t1).trans qd,by simp only[Ak];omega,?_⟩;rw[Ez];simp[Dv];omega
        .cases h
      .cases h;refine⟨.name hn,qd,by simp,?_⟩;rw[Ez];simp only[Dv,show((2:Int)=1)=False from eq_false (by omega),if_false,if_true];omega
     .split at h
      .split at h
       .cases h
       .rename_i y q hy;obtain⟨a1,a2,a3,a4⟩:=qi _ _ _ _ qf hy
        split at h
        .rename_i qn;obtain⟨u1,u2,u3⟩:=K4 (C:=C) qn;cases h;exact⟨a1,(u1.trans a2).trans qd,by simp only[Ak];omega,by omega⟩
        .cases h
      .cases h
/-! scanning gives right tokens -/
def Te:∀ (n:Nat) (ln:Int) (l:List UInt8) (ts:List Tk),D3 n ln l=some ts->Dl ts
 | n,ln,[],ts,h=>by
  have:D3 n ln []=some []:=by cases n<;>rfl
  rw[this]at h;cases h;intro t ht;cases ht
 | 0,ln,c::r,ts,h=>by cases h
 | n+1,ln,c::r,ts,h=>by
  rw[D3]at h
  split at h
  .exact Te n _ _ _ h
  .split at h
   .exact Te n _ _ _ h
   .split at h
    .exact Te n _ _ _ h
    .split at h
     .cases h
     .rename_i k w hf;simp only[Bm]at h;obtain⟨l,hl,rfl⟩:=h;intro t ht;rcases Bj.1 ht with rfl | ht
      .rw[Sm]at hf;simp only
       split at hf
       .rename_i hc
        split at hf
        .cases hf
        .rename_i qy;cases hf;refine⟨fun hk=>?_,fun hk=>?_⟩
         .split at hk
          .cases hk
          .rename_i qE;refine Aoa (by simp[Ej]) (by omega) (by simpa using qE) fun j hj=>?_
           have qC:∀ d∈Ej c r,Me d=true:=fun d hd=>by
            rcases Bj.1 hd with rfl | hd
            .exact(Azq hc).2.2.2
            .exact Aaq hd
           cases j with
           | zero=>
            have h1:Jy c.toNat=true:=hc;simp[Mh,Ej,h1]
           | succ j=>
            have hm:((Ej c r).getD (j+1) 0)∈Ej c r:=by rw[As,A2 hj];exact Fc _
            have hi:=qC _ hm;unfold Me Lf at hi;unfold Mh;simp only[Hx,Af,decide_eq_true_eq]at hi ⊢;rcases hi with h | h | h
            .exact .inl h
            .exact .inr ⟨by omega,.inr h⟩
            .exact .inr ⟨by omega,.inl h⟩
         .split at hk<;>cases hk
       .split at hf
        .rename_i hc
         split at hf
         .cases hf
         .split at hf
          .rename_i qm;cases hf;refine⟨(fun hk=>by cases hk),fun _=>?_⟩
           have hd:Iv (Ea c r):=fun d hd=>by
            rcases Bj.1 hd with rfl | hd
            .exact hc
            .exact Aaq hd
           rw[Ajp hd]at qm;have hv:=of_decide_eq_true qm;have:=Ak1 hd hv;unfold Ea at hv ⊢;rw[this];omega
          .cases hf
        .split at hf
         .cases hf
         .cases hf;exact⟨(fun hk=>by cases hk),(fun hk=>by cases hk)⟩
      .exact Te n _ _ _ hl t ht
/-! statements -/
def Xt(C:Nat)(ts r:List Tk):Prop:=r <:+ ts/\r.length+1=ts.length/\wt C ts=C+wt C r
def Ak2(C:Nat)(t:Tk)(r:List Tk):Xt C (t::r) r:=⟨Qh t r,rfl,Q1 C t r⟩
def Qr{C:Nat}{ts r:List Tk}{nm:List UInt8}(ht:Dl ts)(h:C3 ts=some (nm,r)):B3 nm=true/\Xt C ts r:=by
 cases ts with
 | nil=>cases h
 | cons t ts=>
  unfold C3 at h;simp only at h
  split at h
  .rename_i hk;cases h;exact⟨(ht t Dy).1 hk,Ak2 C t _⟩
  .cases h
def Jn{C:Nat}{s:List UInt8}{ts r:List Tk}(h:Dm s ts=some r):Xt C ts r:=by
 unfold Dm at h
 split at h
 .rename_i hs;cases h;obtain⟨h1,h2,h3⟩:=K4 (C:=C) hs;exact⟨h1,h2,h3⟩
 .cases h
def Zo{C:Nat}{ts r:List Tk}{n:Int}(ht:Dl ts)(h:Gg ts=some (n,r)):(0<=n/\n<=9223372036854775807)/\Xt C ts r:=by
 cases ts with
 | nil=>cases h
 | cons t ts=>
  unfold Gg at h;simp only at h
  split at h
  .rename_i hk;cases h;exact⟨(ht t Dy).2 hk,Ak2 C t _⟩
  .cases h
def Adb:∀ {l:List (List UInt8 × Int)} {s:List UInt8} {v:Int},l.lookup s=some v->∃ a,(a,v)∈l
 | [],_,_,h=>by cases h
 | (a,w)::l,s,v,h=>by
  rw[Yh]at h
  split at h
  .cases h;exact⟨a,Dy⟩
  .obtain⟨b,hb⟩:=Adb h;exact⟨b,Dj _ hb⟩
def Ak3(s:List UInt8):D4 s=0\/(2<=D4 s/\D4 s<=15):=by
 unfold D4
 cases h:wordTab.lookup s with
 | none=>exact .inl rfl
 | some v=>
  obtain⟨a,ha⟩:=Adb h;have:(wordTab.all fun p=>decide (2<=p.2/\p.2<=15))=true:=by decide
  exact .inr (of_decide_eq_true (Bi.1 this (a,v) ha))
def Ak4(s:List UInt8):Ge s=0\/(1<=Ge s/\Ge s<=6):=by
 unfold Ge
 cases h:declTab.lookup s with
 | none=>exact .inl rfl
 | some v=>
  obtain⟨a,ha⟩:=Adb h;have:(declTab.all fun p=>decide (1<=p.2/\p.2<=6))=true:=by decide
  exact .inr (of_decide_eq_true (Bi.1 this (a,v) ha))
def Lb(s:Sp):Nat:=if D1 s.op then s.ex.txt.length else 0
def Azv(op:Int):(Cy op).length<=11:=by
 unfold Cy
 split<;>simp
def Azw(s:Sp):(Ck s).length<=20+s.nm.length+s.arg.length+(Fa s.idx).length+Lb s:=by
 have hw:=Azv s.op;unfold Ck Lb D1;by_cases h1:s.op=1
 .simp[h1];omega
 by_cases h2:s.op=2
 .rw[h2]at hw;simp[h2];omega
 by_cases h3:s.op=3
 .rw[h3]at hw;simp[h3];omega
 by_cases qq:s.op=14
 .rw[qq]at hw;simp[qq];omega
 rw[if_neg h1,if_neg (by omega)]
 split
 .omega
 .try rw[if_neg qq]
  split
  .simp;omega
  .simp;omega
def A3t(d:Nat)(s:Sp):(s.txt d).length<=6*d+40+s.nm.length+s.arg.length+(Fa s.idx).length+Lb s+(if Bu s.op then(Sp.txts (d+1) s.body).length+(Sp.txts (d+1) s.els).length else 0):=by
 have hh:=Azw s;rw[Jq]
 have h5:(if s.els.isEmpty=true then [] else D6 d++125::32::101::108::115::101::32::123::10::Sp.txts (d+1) s.els).length<=2*d+9+(Sp.txts (d+1) s.els).length:=by
  split
  .simp
  .simp[Im];omega
 cases Bu s.op
 .simp only[Aj,Im,Fb,if_false,Ak,C0];omega
 .simp only[Aj,Im,if_true,Ak,C0];omega
def SQ(M C:Nat)(ts:List Tk)(s:Sp)(r:List Tk):Prop:=ShS s/\r <:+ ts/\r.length<ts.length/\s.sz+r.length<=ts.length/\∀ d,d+ts.length<=M->(s.txt d).length+wt C r<=wt C ts
def LQ(M C:Nat)(ts:List Tk)(l:List Sp)(r:List Tk):Prop:=(∀ s∈l,ShS s)/\r <:+ ts/\r.length<ts.length/\Sp.szs l+r.length<ts.length/\∀ d,d+ts.length<=M->(Sp.txts d l).length+wt C r<=wt C ts
def Ph{M C:Nat}(hC:100+8*M<=C){ts r:List Tk}{s:Sp}(hs:ShS s)(h1:r <:+ ts)(h2:r.length<ts.length)(h3:Sp.szs s.body+Sp.szs s.els+1+r.length<=ts.length)
  (h4:∀ d,d+ts.length<=M->C+(Fa s.idx).length+Lb s+((Sp.txts (d+1) s.body).length+(Sp.txts (d+1) s.els).length)+wt C r<=wt C ts):SQ M C ts s r:=by
 refine⟨hs,h1,h2,by rw[K6];omega,fun d hd=>?_⟩;have h5:=h4 d hd;have h6:=A3t d s
 have h7:s.nm.length<=12/\s.arg.length<=12:=by
  cases hs with
  | mk a1 a2 a3 a4 a5 _ _ _ _ _ _ _ _ _=>
   constructor
   .cases hn:Fq s.op
    .exact Rh (a3 hn)
    .rw[a2 hn];exact Ay _
   .by_cases ha:s.op=15
    .exact Rh (a4 ha)
    .rw[a5 ha];exact Ay _
 have h8:(if Bu s.op then(Sp.txts (d+1) s.body).length+(Sp.txts (d+1) s.els).length else 0)<=(Sp.txts (d+1) s.body).length+(Sp.txts (d+1) s.els).length:=by
  split
  .exact Ah _
  .exact Ay _
 omega
def Ar8{M C:Nat}(hC:100+8*M<=C){n:Nat}{line:Int}{ts:List Tk}{s:Sp}{r:List Tk}(ht:Dl ts)(h:Rm n line ts=some (s,r)):SQ M C ts s r:=by
 unfold Rm at h
 split at h
 .cases h
 rename_i nm t1 hn;obtain⟨n1,n2,n3,n4⟩:=Qr (C:=C) ht hn;have qe:=C5 ht n2
 split at h
 .cases h
 rename_i ix t2 hi
 have qD:ix.length<=1/\(∀ x∈ix,ShE x)/\t2 <:+ t1/\t2.length<=t1.length/\(Fa ix).length+wt C t2<=wt C t1:=by
  unfold Ahb at hi
  split at hi
  .rename_i hs;obtain⟨u1,u2,u3⟩:=K4 (C:=C) hs
   split at hi
   .cases hi
   .rename_i x q hx;obtain⟨a1,a2,a3,a4⟩:=(Sw (C:=C) (by omega) n).1 _ _ _ _ (C5 qe u1) hx;simp only[Bm]at hi;obtain⟨q',hq,hi⟩:=hi;cases hi;obtain⟨b1,b2,b3⟩:=Jn (C:=C) hq;have:=Akv [x];simp only at this;exact⟨by simp,by simpa using a1,(b1.trans a2).trans u1,by omega,by omega⟩
  .cases hi;exact⟨by simp,by simp,Acm _,Ah _,by simp[Fa]⟩
 obtain⟨i1,i2,i3,i4,i5⟩:=qD;have ql:=C5 qe i3
 split at h
 .cases h
 rename_i t3 h3;obtain⟨c1,c2,c3⟩:=Jn (C:=C) h3;have qG:=C5 ql c1
 split at h
 .cases h
 rename_i x t4 hx;obtain⟨a1,a2,a3,a4⟩:=(Sw (C:=C) (by omega) n).1 _ _ _ _ qG hx;simp only[Bm]at h;obtain⟨t5,h5,h⟩:=h;cases h;obtain⟨d1,d2,d3⟩:=Jn (C:=C) h5;refine Ph hC (.mk ⟨by simp[An],by simp[An]⟩ (by simp[An,Fq]) (fun _=>n1) (by simp[An]) (by simp[An]) i1 (by simp[An]) i2 (fun _=>a1) (by simp[An,D1]) (by simp[An]) (by simp[An]) (by simp[An]) (by simp[An])) ((((d1.trans a2).trans c1).trans i3).trans n2) (by omega) (by simp[An,Sp.szs];omega) fun d hd=>?_
 simp only[An,Lb,D1,Sp.txts,C0];simp;omega
def Zp{M C:Nat}(hC:100+8*M<=C):∀ n,(∀ ts s r,Dl ts->He n ts=some (s,r)->SQ M C ts s r)/\(∀ ts l r,Dl ts->Ex n ts=some (l,r)->LQ (M+1) C ts l r)/\(∀ ts l r,Dl ts->Iy n ts=some (l,r)->LQ M C ts l r)
 | 0=>⟨fun _ _ _ _ h=>by simp[He]at h,fun _ _ _ _ h=>by simp[Ex]at h,fun _ _ _ _ h=>by simp[Iy]at h⟩
 | n+1=>by
  obtain⟨qi,qh,qo⟩:=Zp hC n;refine⟨fun ts s r ht h=>?_,fun ts l r ht h=>?_,fun ts l r ht h=>?_⟩
  .cases ts with
   | nil=>simp[He]at h
   | cons t ts=>
    have hw:=Q1 C t ts;have qd:=Qh t ts;have qf:=C5 ht qd;rw[He]at h
    split at h
    .exact Ar8 hC ht h
    split at h
    rotate_left
    .cases h
    have hr:=Ak3 t.text;generalize D4 t.text=w at h hr
    split at h
    .cases h
    split at h
    .rename_i qj
     split at h
     .cases h
     rename_i x t1 hx;obtain⟨a1,a2,a3,a4⟩:=(Sw (C:=C) (by omega) n).1 _ _ _ _ qf hx;have qe:=C5 qf a2
     split at h
     .cases h
     rename_i b t2 hb;obtain⟨b1,b2,b3,b4,b5⟩:=qh _ _ _ qe hb;have ql:=C5 qe b2
     split at h
     .rename_i qI;obtain⟨rfl,hs⟩:=qI;obtain⟨u1,u2,u3⟩:=K4 (C:=C) hs
      split at h
      .cases h
      rename_i e t3 he;obtain⟨e1,e2,e3,e4,e5⟩:=qh _ _ _ (C5 ql u1) he;cases h;refine Ph hC (.mk ⟨by simp[An],by simp[An]⟩ (by simp[An]) (by simp[An,Fq]) (by simp[An]) (by simp[An]) (by simp[An]) (by simp[An]) (by simp[An]) (fun _=>a1) (by simp[An,D1]) (by simp[An,Bu]) (by simp[An]) b1 e1) ((((e2.trans u1).trans b2).trans a2).trans qd) (by simp only[Ak];omega) (by simp only[Ak];omega) fun d hd=>?_
      rw[Ak]at hd;have:=b5 (d+1) (by omega);have:=e5 (d+1) (by omega);simp only[An,Lb,D1,Fa,C0];simp;omega
     .cases h;refine Ph hC (.mk (by simp only[An];omega) (by simp[An]) (by rcases qj with rfl | rfl<;>simp[An,Fq]) (by simp[An];omega) (by simp[An]) (by simp[An]) (by simp[An]) (by simp[An]) (fun _=>a1) (by rcases qj with rfl | rfl<;>simp[An,D1]) (by rcases qj with rfl | rfl<;>simp[An,Bu]) (by simp[An]) b1 (by simp[An])) ((b2.trans a2).trans qd) (by simp only[Ak];omega) (by simp only[An,Ak,Sp.szs];omega) fun d hd=>?_
      rw[Ak]at hd;have:=b5 (d+1) (by omega)
      have:D1 w=true:=by rcases qj with rfl | rfl<;>rfl
      simp only[An,Lb,this,Fa,C0,if_true,Sp.txts];omega
    .split at h
     .rename_i qk
      split at h
      .cases h
      rename_i b t2 hb;obtain⟨b1,b2,b3,b4,b5⟩:=qh _ _ _ qf hb;cases h;refine Ph hC (.mk (by simp only[An];omega) (by simp[An]) (by rcases qk with rfl | rfl<;>simp[An,Fq]) (by simp[An];omega) (by simp[An]) (by simp[An]) (by simp[An]) (by simp[An]) (by rcases qk with rfl | rfl<;>simp[An,D1]) (fun _=>⟨rfl,rfl,rfl,rfl⟩) (by rcases qk with rfl | rfl<;>simp[An,Bu]) (by simp[An]) b1 (by simp[An])) (b2.trans qd) (by simp only[Ak];omega) (by simp only[An,Ak,Sp.szs];omega) fun d hd=>?_
      rw[Ak]at hd;have:=b5 (d+1) (by omega)
      have:D1 w=false:=by rcases qk with rfl | rfl<;>rfl
      simp only[An,Lb,this,Fa,C0,Fb,if_false,Sp.txts];omega
     .split at h
      .cases h
      rename_i nm t1 hn;obtain⟨n1,n2,n3,n4⟩:=Qr (C:=C) qf hn;have qe:=C5 qf n2
      split at h
      .rename_i qg
       split at h
       .cases h
       rename_i b t2 hb;obtain⟨b1,b2,b3,b4,b5⟩:=qh _ _ _ qe hb;cases h;refine Ph hC (.mk (by simp only[An];omega) (by rcases qg with rfl | rfl | rfl<;>simp[An,Fq]) (fun _=>n1) (by simp[An];omega) (by simp[An]) (by simp[An]) (by simp[An]) (by simp[An]) (by rcases qg with rfl | rfl | rfl<;>simp[An,D1]) (fun _=>⟨rfl,rfl,rfl,rfl⟩) (by rcases qg with rfl | rfl | rfl<;>simp[An,Bu]) (by simp[An]) b1 (by simp[An])) ((b2.trans n2).trans qd) (by simp only[Ak];omega) (by simp only[An,Ak,Sp.szs];omega) fun d hd=>?_
       rw[Ak]at hd;have:=b5 (d+1) (by omega)
       have:D1 w=false:=by rcases qg with rfl | rfl | rfl<;>rfl
       simp only[An,Lb,this,Fa,C0,Fb,if_false,Sp.txts];omega
      .split at h
       .rename_i qv;subst qv
        split at h
        .cases h
        rename_i x t2 hx;obtain⟨a1,a2,a3,a4⟩:=(Sw (C:=C) (by omega) n).1 _ _ _ _ qe hx;simp only[Bm]at h;obtain⟨t3,h3,h⟩:=h;cases h;obtain⟨d1,d2,d3⟩:=Jn (C:=C) h3;refine Ph hC (.mk ⟨by simp[An],by simp[An]⟩ (by simp[An,Fq]) (fun _=>n1) (by simp[An]) (by simp[An]) (by simp[An]) (by simp[An]) (by simp[An]) (fun _=>a1) (by simp[An,D1]) (by simp[An]) (by simp[An]) (by simp[An]) (by simp[An])) (((d1.trans a2).trans n2).trans qd) (by simp only[Ak];omega) (by simp only[An,Ak,Sp.szs];omega) fun d hd=>?_
        simp only[An,Lb,D1,Fa,C0,Sp.txts];simp;omega
       .split at h
        .rename_i qw;subst qw
         split at h
         .cases h
         rename_i ar t2 ha;obtain⟨a1,a2,a3,a4⟩:=Qr (C:=C) qe ha;simp only[Bm]at h;obtain⟨t3,h3,h⟩:=h;cases h;obtain⟨d1,d2,d3⟩:=Jn (C:=C) h3;refine Ph hC (.mk ⟨by simp[An],by simp[An]⟩ (by simp[An,Fq]) (fun _=>n1) (fun _=>a1) (by simp[An]) (by simp[An]) (by simp[An]) (by simp[An]) (by simp[An,D1]) (fun _=>⟨rfl,rfl,rfl,rfl⟩) (by simp[An]) (by simp[An]) (by simp[An]) (by simp[An])) (((d1.trans a2).trans n2).trans qd) (by simp only[Ak];omega) (by simp only[An,Ak,Sp.szs];omega) fun d hd=>?_
         simp only[An,Lb,D1,Fa,C0,Sp.txts];simp;omega
        .simp only[Bm]at h;obtain⟨t3,h3,h⟩:=h;cases h;obtain⟨d1,d2,d3⟩:=Jn (C:=C) h3;have qx:w=9\/w=10\/w=11\/w=12\/w=13:=by omega
         refine Ph hC (.mk (by simp only[An];omega) (by rcases qx with rfl | rfl | rfl | rfl | rfl<;>simp[An,Fq]) (fun _=>n1) (by simp[An];omega) (by simp[An]) (by simp[An]) (by simp[An]) (by simp[An]) (by rcases qx with rfl | rfl | rfl | rfl | rfl<;>simp[An,D1]) (fun _=>⟨rfl,rfl,rfl,rfl⟩) (by simp[An]) (by simp[An]) (by simp[An]) (by simp[An])) ((d1.trans n2).trans qd) (by simp only[Ak];omega) (by simp only[An,Ak,Sp.szs];omega) fun d hd=>?_
         have:D1 w=false:=by rcases qx with rfl | rfl | rfl | rfl | rfl<;>rfl
         simp only[An,Lb,this,Fa,C0,Fb,if_false,Sp.txts];omega
  .rw[Ex]at h
   split at h
   .rename_i hs;obtain⟨u1,u2,u3⟩:=K4 (C:=C) hs;obtain⟨b1,b2,b3,b4,b5⟩:=qo _ _ _ (C5 ht u1) h;exact⟨b1,b2.trans u1,by omega,by omega,fun d hd=>by have:=b5 d (by omega);omega⟩
   .cases h
  .rw[Iy]at h
   split at h
   .rename_i hs;obtain⟨u1,u2,u3⟩:=K4 (C:=C) hs;cases h;exact⟨by simp,u1,by omega,by simp only[Sp.szs];omega,fun d hd=>by simp only[Sp.txts,C0];omega⟩
   .split at h
    .cases h
    rename_i s t1 hs;obtain⟨a1,a2,a3,a4,a5⟩:=qi _ _ _ ht hs
    split at h
    .cases h
    rename_i l' t2 hl;obtain⟨b1,b2,b3,b4,b5⟩:=qo _ _ _ (C5 ht a2) hl;cases h;refine⟨fun x hx=>?_,b2.trans a2,by omega,by rw[Sp.szs];omega,fun d hd=>?_⟩
    .rcases Bj.1 hx with rfl | hx
     .exact a1
     .exact b1 x hx
    .have:=a5 d hd;have:=b5 d (by omega);rw[Lo,Aj];omega
def Oj(C:Nat)(ts r:List Tk):Prop:=r <:+ ts/\r.length<=ts.length/\wt C r<=wt C ts
def Mw{C:Nat}{ts r:List Tk}(h:Xt C ts r):Oj C ts r:=⟨h.1,by have:=h.2.1;omega,by have:=h.2.2;omega⟩
def Jl{C:Nat}{a b c:List Tk}(h:Oj C a b)(h':Oj C b c):Oj C a c:=⟨h'.1.trans h.1,Cv h'.2.1 h.2.1,Cv h'.2.2 h.2.2⟩
def Ak5{C:Nat}(a:List Tk):Oj C a a:=⟨Acm _,Ah _,Ah _⟩
def Aga{s:List UInt8}{ts:List Tk}(C:Nat)(h:Ar s ts=true):Oj C ts ts.tail:=by
 obtain⟨h1,h2,h3⟩:=K4 (C:=C) h;exact⟨h1,by omega,by omega⟩
def Av1{C:Nat}{ts r:List Tk}{n:Int}(ht:Dl ts)(h:Ud ts=some (n,r)):(0<=n/\n<=9223372036854775807)/\Oj C ts r:=by
 unfold Ud at h
 split at h
 .rename_i hs;have u:=Aga C hs
  split at h
  .cases h
  rename_i m q hq;obtain⟨n1,n2⟩:=Zo (C:=C) (C5 ht u.1) hq
  split at h
  .cases h
  simp only[Bm]at h;obtain⟨t3,h3,h⟩:=h;cases h;exact⟨n1,Jl (Jl u (Mw n2)) (Mw (Jn h3))⟩
 .cases h;exact⟨by omega,Ak5 _⟩
def Ak6{C:Nat}{ts r:List Tk}{n:Int}(ht:Dl ts)(h:Pg ts=some (n,r)):(-9223372036854775808<n/\n<=9223372036854775807)/\Oj C ts r:=by
 unfold Pg at h
 split at h
 .rename_i hs;have u:=Aga C hs
  split at h
  .rename_i qn;have u2:=Aga C qn;simp only[Bm]at h;obtain⟨p,hp,h⟩:=h;obtain⟨m,q⟩:=p;cases h;obtain⟨n1,n2⟩:=Zo (C:=C) (C5 (C5 ht u.1) u2.1) hp;exact⟨by simp only;omega,Jl (Jl u u2) (Mw n2)⟩
  .obtain⟨n1,n2⟩:=Zo (C:=C) (C5 ht u.1) h;exact⟨by omega,Jl u (Mw n2)⟩
 .cases h;exact⟨by omega,Ak5 _⟩
def DQ(C:Nat)(ts:List Tk)(d:Dp)(r:List Tk):Prop:=ShD d/\r <:+ ts/\r.length<ts.length/\(E1 d).length+2+wt C r<=wt C ts
def Abg{C:Nat}(hC:100<=C){t:Tk}{ts r:List Tk}{d:Dp}(h:ShD d)(hl:Oj C ts r):DQ C (t::ts) d r:=by
 have h1:=Rh h.nm
 have h2:d.on.length<=12:=by
  by_cases hk:d.kind=5
  .exact Rh (h.on.1 hk)
  .rw[h.on.2 hk];exact Ay _
 have h3:=Aqi h1 h2;have h4:=Q1 C t ts;exact⟨h,hl.1.trans (Qh t ts),by have:=hl.2.1;simp only[Ak];omega,by have:=hl.2.2;omega⟩
def Ah8{C:Nat}(hC:100<=C){ts r:List Tk}{d:Dp}(ht:Dl ts)(hd:O9 ts=true)(h:Rg ts=some (d,r)):DQ C ts d r:=by
 cases ts with
 | nil=>cases h
 | cons t ts=>
  have hk:1<=Ge t.text/\Ge t.text<=6:=by
   simp only[O9,Af,bne_iff_ne]at hd;rcases Ak4 t.text with h | h
   .exact absurd h hd.2
   .exact h
  have qf:=C5 ht (Qh t ts);rw[Rg]at h;generalize Ge t.text=w at h hk
  split at h
  .cases h
  rename_i nm t1 hn;obtain⟨n1,n2⟩:=Qr (C:=C) qf hn;have n2:=Mw n2;have qe:=C5 qf n2.1
  split at h
  .split at h
   .cases h
   rename_i sz t2 hs;obtain⟨s1,s2⟩:=Av1 (C:=C) qe hs
   split at h
   .cases h
   rename_i i t3 hi;obtain⟨i1,i2⟩:=Ak6 (C:=C) (C5 qe s2.1) hi;simp only[Bm]at h;obtain⟨t4,h4,h⟩:=h;cases h;exact Abg hC ⟨by simp,n1,by simp;exact s1,⟨i1.1,i1.2,by simp⟩,by simp⟩ (Jl (Jl (Jl n2 s2) i2) (Mw (Jn h4)))
  split at h
  .split at h
   .cases h
   rename_i i t3 hi;obtain⟨i1,i2⟩:=Ak6 (C:=C) qe hi;simp only[Bm]at h;obtain⟨t4,h4,h⟩:=h;cases h;exact Abg hC ⟨by simp,n1,by simp,⟨i1.1,i1.2,by simp⟩,by simp⟩ (Jl (Jl n2 i2) (Mw (Jn h4)))
  split at h
  .split at h
   .cases h
   rename_i on t3 hi;obtain⟨i1,i2⟩:=Qr (C:=C) qe hi;simp only[Bm]at h;obtain⟨t4,h4,h⟩:=h;cases h;exact Abg hC ⟨by simp,n1,by simp,by simp,by simpa using i1⟩ (Jl (Jl n2 (Mw i2)) (Mw (Jn h4)))
  .rename_i q1 q2 q5;simp only[Bm]at h;obtain⟨t4,h4,h⟩:=h;cases h;exact Abg hC ⟨hk,n1,⟨by simp,by simp,fun _=>rfl⟩,⟨by simp,by simp,fun _ _=>rfl⟩,fun h=>absurd h q5,fun _=>rfl⟩ (Jl n2 (Mw (Jn h4)))
def Ah0{C:Nat}(hC:100<=C):∀ (n:Nat) (ts:List Tk) (l:List Dp) (r:List Tk),Dl ts->Js n ts=some (l,r)->(∀ d∈l,ShD d)/\r <:+ ts/\((l.map fun d=>E1 d++[59,10]).flatten).length+wt C r<=wt C ts
 | 0,ts,l,r,ht,h=>by cases h
 | n+1,ts,l,r,ht,h=>by
  rw[Js]at h
  split at h
  .rename_i hd
   split at h
   .cases h
   rename_i d q hq;obtain⟨d1,d2,d3,d4⟩:=Ah8 hC ht hd hq
   split at h
   .cases h
   rename_i l' q' qu;obtain⟨e1,e2,e3⟩:=Ah0 hC n _ _ _ (C5 ht d2) qu;cases h;refine⟨fun x hx=>?_,e2.trans d2,?_⟩
   .rcases Bj.1 hx with rfl | hx
    .exact d1
    .exact e1 x hx
   .simp only[Bb,Ey,Aj,Ak,C0]at e3 ⊢;omega
  .cases h;exact⟨by simp,Acm _,by simp⟩
def Aip{C:Nat}(hC:100<=C):∀ (n:Nat) (ts:List Tk) (l:List (List UInt8)) (r:List Tk),Dl ts->J1 n ts=some (l,r)->(∀ s∈l,B3 s=true)/\r <:+ ts/\r.length<ts.length/\(Eo l).length+wt C r<=wt C ts
 | 0,ts,l,r,ht,h=>by cases h
 | n+1,ts,l,r,ht,h=>by
  rw[J1]at h
  split at h
  .cases h
  rename_i nm t1 hn;obtain⟨n1,n2,n3,n4⟩:=Qr (C:=C) ht hn;have n5:=Rh n1
  split at h
  .rename_i hs;obtain⟨u1,u2,u3⟩:=K4 (C:=C) hs
   split at h
   .cases h
   rename_i l' q hq;obtain⟨e1,e2,e3,e4⟩:=Aip hC n _ _ _ (C5 (C5 ht n2) u1) hq;cases h;have:=Ajn nm l';refine⟨fun x hx=>?_,(e2.trans u1).trans n2,by omega,by omega⟩;rcases Bj.1 hx with rfl | hx
   .exact n1
   .exact e1 x hx
  .simp only[Bm]at h;obtain⟨t4,h4,h⟩:=h;cases h;obtain⟨d1,d2,d3⟩:=Jn (C:=C) h4;refine⟨fun x hx=>?_,d1.trans n2,by omega,by simp only[Eo];omega⟩;simp at hx;subst hx;exact n1
def ThQ(M C:Nat)(ts:List Tk)(t:Tp)(r:List Tk):Prop:=B3 t.nm=true/\(∀ s∈t.locals,B3 s=true)/\(∀ s∈t.body,ShS s)/\r <:+ ts/\r.length<ts.length/\Sp.szs t.body<=ts.length/\(Ew t).length+wt C r<=wt C ts
def Aiq{M C:Nat}(hC:100+8*M<=C){n:Nat}{ts r:List Tk}{t:Tp}(ht:Dl ts)(hM:ts.length<=M)(h:Rn n ts=some (t,r)):ThQ M C ts t r:=by
 cases ts with
 | nil=>cases h
 | cons t0 ts=>
  have hw:=Q1 C t0 ts;have qd:=Qh t0 ts;have qf:=C5 ht qd;rw[Ak]at hM;rw[Rn]at h
  split at h
  .cases h
  rename_i nm t1 hn;obtain⟨n1,n2,n3,n4⟩:=Qr (C:=C) qf hn;have n5:=Rh n1;have qe:=C5 qf n2
  split at h
  .cases h
  rename_i t2 h2;obtain⟨c1,c2,c3⟩:=Jn (C:=C) h2;have ql:=C5 qe c1
  split at h
  .cases h
  rename_i l t3 hl
  have qt:(∀ s∈l,B3 s=true)/\t3 <:+ t2/\t3.length<=t2.length/\(Eo l).length+wt C t3<=wt C t2:=by
   unfold Af8 at hl
   split at hl
   .rename_i hs;obtain⟨u1,u2,u3⟩:=K4 (C:=C) hs;cases hl;exact⟨by simp,u1,by omega,by simp only[Eo,C0];omega⟩
   .obtain⟨e1,e2,e3,e4⟩:=Aip (C:=C) (by omega) n _ _ _ ql hl;exact⟨e1,e2,by omega,e4⟩
  obtain⟨l1,l2,l3,l4⟩:=qt
  split at h
  .cases h
  rename_i b t4 hb;obtain⟨b1,b2,b3,b4,b5⟩:=(Zp hC n).2.1 _ _ _ (C5 ql l2) hb;cases h;have:=b5 1 (by omega);refine⟨n1,l1,b1,(((b2.trans l2).trans c1).trans n2).trans qd,by simp only[Ak];omega,by simp only[Ak];omega,?_⟩;unfold Ew;simp only[Aj,Ak,C0];omega
def Ah9{M C:Nat}(hC:100+8*M<=C)(m:Nat):∀ (n:Nat) (ts:List Tk) (l:List Tp) (r:List Tk),Dl ts->ts.length<=M->Jw m n ts=some (l,r) ->
  (∀ t∈l,B3 t.nm=true)/\(∀ t∈l,∀ s∈t.locals,B3 s=true)/\(∀ t∈l,∀ s∈t.body,ShS s)/\(∀ t∈l,Sp.szs t.body<=M)/\((l.map Ew).flatten).length+wt C r<=wt C ts
 | 0,ts,l,r,ht,hM,h=>by cases h
 | n+1,ts,l,r,ht,hM,h=>by
  rw[Jw]at h
  split at h
  .split at h
   .cases h
   rename_i t q hq;obtain⟨d1,d2,d3,d4,d5,d6,d7⟩:=Aiq hC ht hM hq
   split at h
   .cases h
   rename_i l' q' qu;obtain⟨e1,e2,e3,e4,e5⟩:=Ah9 hC m n _ _ _ (C5 ht d4) (by omega) qu;cases h;refine⟨fun x hx=>?_,fun x hx=>?_,fun x hx=>?_,fun x hx=>?_,?_⟩
   .rcases Bj.1 hx with rfl | hx
    .exact d1
    .exact e1 x hx
   .rcases Bj.1 hx with rfl | hx
    .exact d2
    .exact e2 x hx
   .rcases Bj.1 hx with rfl | hx
    .exact d3
    .exact e3 x hx
   .rcases Bj.1 hx with rfl | hx
    .omega
    .exact e4 x hx
   .simp only[Bb,Ey,Aj];omega
  .cases h;exact⟨by simp,by simp,by simp,by simp,by simp⟩
def Sx:∀ (n:Nat) (ln:Int) (l:List UInt8) (ts:List Tk),D3 n ln l=some ts->ts.length<=l.length
 | n,ln,[],ts,h=>by
  have:D3 n ln []=some []:=by cases n<;>rfl
  rw[this]at h;cases h;exact Ah _
 | 0,ln,c::r,ts,h=>by cases h
 | n+1,ln,c::r,ts,h=>by
  rw[D3]at h
  split at h
  .have:=Sx n _ _ _ h;simp only[Ak];omega
  .split at h
   .have:=Sx n _ _ _ h;simp only[Ak];omega
   .split at h
    .have h1:=Sx n _ _ _ h;have h2:=Wi (· != 10) (c::r);omega
    .split at h
     .cases h
     .rename_i k w hf;simp only[Bm]at h;obtain⟨l,hl,rfl⟩:=h;obtain⟨h1,q,h2⟩:=Yx hf;have h3:=Sx n _ _ _ hl;rw[Dn]at h3;have:(c::r).length=w.length+q.length:=by rw[h2,Aj]
      simp only[Ak]at this h3 ⊢;omega
def Arm{s:List UInt8}{p:Gp}(h:Lz s=some p):ShG p/\(Fy p).length<=1000000000/\∀ t∈p.thrs,Sp.szs t.body<=4096:=by
 unfold Lz at h
 split at h
 .cases h
 rename_i hs
 split at h
 .cases h
 rename_i ts ht;have hl:=Sx _ _ _ _ ht;have qm:=Te _ _ _ _ ht
 split at h
 rotate_left
 .cases h
 rename_i p' hp;cases h;unfold Xd at hp
 split at hp
 .cases hp
 rename_i ds r hd;obtain⟨d1,d2,d3⟩:=Ah0 (C:=100+8*4096) (by omega) _ _ _ _ qm hd
 split at hp
 .cases hp
 rename_i l r2 qH;obtain⟨t1,t2,t3,t4,t5⟩:=Ah9 (M:=4096) (C:=100+8*4096) (Ah _) _ _ _ _ _ (C5 qm d2) (by have:=d2.length_le;omega) qH
 split at hp
 .cases hp
 rename_i qF;cases hp;refine⟨⟨d1,t1,t2,t3,by simpa using qF⟩,?_,t4⟩;unfold Fy;rw[Aj];simp only;have:wt (100+8*4096) ts<=(100+8*4096)*4096:=Nat.mul_le_mul_left _ (by omega);omega
/-! programs that are equal apart from lines have one text -/
def Av2:∀ {l l':List Xp},Q6 l l'=true->Fa l=Fa l'
 | [],[],_=>rfl
 | x::l,y::l',h=>by
  simp only[Q6,Af]at h;simp only[Fa,(Adr x y h.1).2.2]
 | [],_::_,h=>by cases h
 | _::_,[],h=>by cases h
mutual
theorem Azx:∀ (s s':Sp),Af9 s s'=true->∀ d,s.txt d=s'.txt d
 | ⟨op,line,nm,arg,iz,it,idx,ex,bz,bt,body,ez,et,els⟩,⟨op',line',nm',arg',iz',it',idx',ex',bz',bt',body',ez',et',els'⟩,h,d=>by
  simp only[Af9,Af,beq_iff_eq]at h;obtain⟨rfl,rfl,rfl,hx,hi,hb,he⟩:=h;have h1:=(Adr ex ex' hx).2.2;have h2:=Av2 hi;have h3:=Ad7 body body' hb (d+1);have h4:=Ad7 els els' he (d+1);rw[Jq,Jq];simp only[Ck,h1,h2,h3.1,h4.1,h4.2]
theorem Ad7:∀ (l l':List Sp),Wz l l'=true->∀ d,Sp.txts d l=Sp.txts d l'/\l.isEmpty=l'.isEmpty
 | [],[],_,d=>⟨rfl,rfl⟩
 | x::l,y::l',h,d=>by
  simp only[Wz,Af]at h;rw[Lo,Lo,Azx x y h.1 d,(Ad7 l l' h.2 d).1];exact⟨rfl,rfl⟩
 | [],_::_,h,_=>by cases h
 | _::_,[],h,_=>by cases h
end
