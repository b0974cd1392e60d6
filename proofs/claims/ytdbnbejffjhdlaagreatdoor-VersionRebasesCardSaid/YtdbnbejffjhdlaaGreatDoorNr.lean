/- The plain machine's forms, read off the program's own functions. -/
import Derived.Test.YtdbnbejffjhdlaaGreatDoorA5
import Derived.Test.YtdbnbejffjhdlaaGreatDoorRows
import Derived.DataReads
import Derived.Test.YtdbnbejffjhdlaaGreatDoorShelf
import Derived.Lib.UnsafeStr
import Derived.Lib.SlicesCompact
import Derived.Shelf.Spec.SlicesGrow
set_option linter.all false
namespace Go.Proofs.YtdbnbejffjhdlaaGreatDoor.KM
open Go
def AD{p:Prop}(h:p:=by kernel_rfl):p:=h
inductive TD where
 | i (k:IntKind) | s | b | it | f | sl (e:Nat) | pt (e:Nat) | ar (n e:Nat) | st (fs:List (Nat × Nat)) | mp (v:Nat)
structure TyR where
 d:TD
 z:List V
 n:Nat
 one:Bool
 by':Nat
 pl:Bool
section
variable (ty:Nat->TyR) (gl:Nat->V) (lt:Nat->Nat)
def Ayb:Value->V
 | .bool b=>.bool b
 | .int k n=>.int k n
 | .string s=>.str s.data.toList
 | .pointer _=>.nilp
 | .slice _ _ _=>.nils
 | .nilFunc=>.nilf
 | .nilIface=>.nili
 | _=>.und
def Akx:List Value->List V
 | []=>[]
 | v::l=>Ayb v::Akx l
def Ay9:Value->V
 | .agg cs=>.agg (Akx cs.toList)
 | .bool b=>.bool b
 | .int k n=>.int k n
 | .string s=>.str s.data.toList
 | .pointer _=>.nilp
 | .slice _ _ _=>.nils
 | .nilFunc=>.nilf
 | .nilIface=>.nili
 | _=>.und
def D1:Operand->S
 | .tmp t=>.t t
 | .const v=>.k (Ay9 v)
 | .func f=>.k (.fn f [] [])
 | .global g=>.k (gl g)
def Vc:List Operand->List S
 | []=>[]
 | x::l=>D1 gl x::Vc l
def Agk:Option Operand->Option S
 | none=>none
 | some x=>some (D1 gl x)
def Ayc:TD->Nat->S->Nat × Nat × S
 | .st fs,i,s=>match fs[i]? with
  | some (o,t)=>(o,(ty t).n,s)
  | none=>(0,0,s)
 | .ar _ e,i,s=>(i*(ty e).n,(ty e).n,s)
 | _,_,s=>(0,0,s)
def Aky(d:TD):List (Nat × Operand)->List (Nat × Nat × S)
 | []=>[]
 | (i,x)::l=>Ayc ty d i (D1 gl x)::Aky d l
def Al0:List (Nat × Operand)->List (Nat × S)
 | []=>[]
 | (i,x)::l=>(i,D1 gl x)::Al0 l
def Aza:Nat->Bool->Nat->TyR->Nat->List (Nat × S)->AO
 | 0,true,_,y,n,ps=>.rows n y.z ps
 | 0,false,_,y,n,ps=>.rowf n y.z ps
 | 1,_,_,y,n,ps=>.rows n y.z ps
 | 2,_,e,y,n,ps=>.rowo e n y.z ps
 | _,_,_,y,n,ps=>.rowf n y.z ps
def Awj:TD->Nat->List (Nat × S)->AO
 | .sl e,n,ps=>Aza (lt e) (ty e).pl e (ty e) n ps
 | _,_,_=>.mmk
def Ayd:V->Nat
 | .bool _=>0
 | .str _=>2
 | _=>1
def Ae1:List V->List Nat
 | []=>[]
 | x::l=>Ayd x::Ae1 l
def Azb(z:List V):TD->Option EqK
 | .b=>some .bool
 | .sl _=>some .nilsl
 | .pt _=>some .nilpt
 | .f=>some .nilfn
 | .it=>some .nilif
 | .st _=>some (.flat (Ae1 z))
 | .ar _ _=>some (.flat (Ae1 z))
 | _=>none
def Azc:BinOp->Option EqK->S->S->AO
 | .eql,some k,x,y=>.eq k false x y
 | .neq,some k,x,y=>.eq k true x y
 | b,_,x,y=>.bin b x y
def Azd:TD->TD->S->AO
 | .i _,.i k,x=>.cvi k x
 | _,_,x=>.mov x
def Aze:TD->S->Option S->Option S->Option S->AO
 | .s,x,l,h,_=>.slcs x l h
 | .sl e,x,l,h,m=>.slc (ty e).n x l h m
 | .ar n e,x,l,h,_=>.slca n (ty e).n x l h
 | _,x,_,_,_=>.mov x
def Awk:TD->TD
 | .pt e=>(ty e).d
 | .s=>.s
 | .sl e=>.sl e
 | .ar n e=>.ar n e
 | d=>d
def Azf:TD->Nat->S->AO
 | .st fs,i,x=>match fs[i]? with
  | some (o,_)=>.fad o x
  | none=>.mov x
 | _,_,x=>.mov x
def Azg:TD->Nat->S->AO
 | .st fs,i,x=>match fs[i]? with
  | some (o,t)=>.fld o (ty t).n (ty t).one x
  | none=>.mov x
 | _,_,x=>.mov x
def Azh:TD->S->S->AO
 | .sl e,x,i=>.iad (ty e).n x i
 | .ar n e,x,i=>.iar n (ty e).n x i
 | _,x,_=>.mov x
def Azi:TD->S->S->AO
 | .ar n e,x,i=>.ida n (ty e).n (ty e).one x i
 | .s,x,i=>.idx x i
 | _,x,_=>.mov x
def Aye:TD->S->S->AO
 | .mp e,x,i=>match (ty e).z with
  | [z]=>.mlk z x i
  | _=>.mmk
 | _,x,_=>.mov x
def rMk:TD->S->S->AO
 | .sl e,x,y=>.mk e (ty e).by' (ty e).z x y
 | _,x,_=>.mov x
def Azj:TD->S->AO
 | _,x=>.mov x
def Azk:TD->S->AO
 | .s,x=>.lens x
 | .sl _,x=>.len x
 | _,x=>.mov x
def Azl:TD->TD->S->S->AO
 | .sl e,.s,x,y=>.apps e x y
 | .sl e,.sl _,x,y=>.app (ty e).by' ((ty e).n,e) x y
 | _,_,x,_=>.mov x
def Awl:Builtin->List S->List Nat->AO
 | .len,[x],[t]=>Azk (ty t).d x
 | .append,[x,y],[t,u]=>Azl ty (ty t).d (ty u).d x y
 | .max,[x,y],_=>.mx x y
 | .min,[x,y],_=>.mn x y
 | _,_,_=>.mmk
def Ayf:Callee->List Operand->List Nat->AO
 | .value (.func f),xs,_=>.call f (Vc gl xs)
 | .value (.tmp t),xs,_=>.callv (.t t) (Vc gl xs)
 | .builtin b,xs,ts=>Awl ty b (Vc gl xs) ts
 | _,_,_=>.mmk
def Azm:Go.Fn->List S->List S->AO
 | _,_,_=>.mmk
def rOp:Op->AO
 | .move x=>.mov (D1 gl x)
 | .assign x=>.mov (D1 gl x)
 | .pick c a b=>.pick (D1 gl c) (D1 gl a) (D1 gl b)
 | .alloc t=>.new t (ty t).z
 | .box t x=>.box t (D1 gl x)
 | .build t ps=>.build (ty t).z (Aky ty gl (ty t).d ps.toList)
 | .buildSlice t n ps=>Awj ty lt (ty t).d n (Al0 gl ps.toList)
 | .load t x=>.load (ty t).n (ty t).one (D1 gl x)
 | .store t x v=>.store (ty t).n (D1 gl x) (D1 gl v)
 | .nilCheck x=>.chk (D1 gl x)
 | .binOp b t x y _=>Azc b (Azb (ty t).z (ty t).d) (D1 gl x) (D1 gl y)
 | .unOp u _ x=>.un u (D1 gl x)
 | .convert s d x=>Azd (ty s).d (ty d).d (D1 gl x)
 | .sliceToArrayPointer t x=>Azj (ty t).d (D1 gl x)
 | .makeFunc f a c=>Azm f (Vc gl a.toList) (Vc gl c.toList)
 | .makeMap _ _=>.mmk
 | .makeSlice t x y=>rMk ty (ty t).d (D1 gl x) (D1 gl y)
 | .slice t x l h m=>Aze ty (Awk ty (ty t).d) (D1 gl x) (Agk gl l) (Agk gl h) (Agk gl m)
 | .fieldAddr t x i=>Azf (ty t).d i (D1 gl x)
 | .field t x i=>Azg ty (ty t).d i (D1 gl x)
 | .indexAddr t x i=>Azh ty (ty t).d (D1 gl x) (D1 gl i)
 | .index t x i=>Azi ty (ty t).d (D1 gl x) (D1 gl i)
 | .lookup t x i _=>Aye ty (ty t).d (D1 gl x) (D1 gl i)
 | .mapUpdate _ x k v=>.mup (D1 gl x) (D1 gl k) (D1 gl v)
 | .extract x i=>.ext i (D1 gl x)
 | .call c=>Ayf ty gl c.callee c.args.toList c.argTypes.toList
 | _=>.mmk
/-! sets of slots -/
def Ds:Operand->Nat
 | .tmp t=>1 <<< t
 | .const _=>0
 | .func _=>0
 | .global _=>0
def Aa1:List Operand->Nat
 | []=>0
 | x::l=>Ds x ||| Aa1 l
def Agl:Option Operand->Nat
 | none=>0
 | some x=>Ds x
def Ae2:List (Nat × Operand)->Nat
 | []=>0
 | (_,x)::l=>Ds x ||| Ae2 l
def Azn:Callee->Nat
 | .value f=>Ds f
 | .invoke r _=>Ds r
 | .builtin _=>0
def uOp:Op->Nat
 | .move x=>Ds x
 | .assign x=>Ds x
 | .pick c a b=>Ds c ||| Ds a ||| Ds b
 | .alloc _=>0
 | .box _ x=>Ds x
 | .build _ ps=>Ae2 ps.toList
 | .buildSlice _ _ ps=>Ae2 ps.toList
 | .load _ x=>Ds x
 | .store _ x v=>Ds x ||| Ds v
 | .nilCheck x=>Ds x
 | .binOp _ _ x y _=>Ds x ||| Ds y
 | .unOp _ _ x=>Ds x
 | .convert _ _ x=>Ds x
 | .sliceToArrayPointer _ x=>Ds x
 | .makeFunc _ a c=>Aa1 a.toList ||| Aa1 c.toList
 | .makeMap _ _=>0
 | .makeSlice _ x y=>Ds x ||| Ds y
 | .slice _ x l h m=>Ds x ||| Agl l ||| Agl h ||| Agl m
 | .fieldAddr _ x _=>Ds x
 | .field _ x _=>Ds x
 | .indexAddr _ x i=>Ds x ||| Ds i
 | .index _ x i=>Ds x ||| Ds i
 | .lookup _ x i _=>Ds x ||| Ds i
 | .mapUpdate _ x k v=>Ds x ||| Ds k ||| Ds v
 | .extract x _=>Ds x
 | .call c=>Azn c.callee ||| Aa1 c.args.toList
 | _=>0
def Abf:Nat->Nat->Nat->List Nat
 | 0,_,_=>[]
 | f+1,i,m=>match m==0 with
  | true=>[]
  | false=>match m % 256==0 with
   | true=>Abf f (i+8) (m / 256)
   | false=>match m % 2==0 with
    | true=>Abf f (i+1) (m / 2)
    | false=>i::Abf f (i+1) (m / 2)
def bits(m:Nat):List Nat:=Abf 800 0 m
def Agm(a b:Nat):Nat:=a ^^^ (a &&& b)
def Agn(all:List Oper):Option (Nat × Bool)->Option (Nat × Bool)
 | none=>none
 | some (j,w)=>match all[j]? with
  | some r=>match r.dst with
   | some d=>some (d,w)
   | none=>none
  | none=>none
def Al1:Option (Nat × Bool)->Nat
 | none=>0
 | some (t,_)=>1 <<< t
def Al2:Option Nat->Nat
 | none=>0
 | some t=>1 <<< t
def rAI:Option Nat->Option (Nat × Bool)->AO->AI
 | some d,none,a=>o d a
 | none,none,a=>on a
 | some d,some (t,w),a=>og d a t w
 | none,some (t,w),a=>oh a t w
def Ana(all:List Oper):List Oper->List AI
 | []=>[]
 | r::l=>rAI r.dst (Agn all r.guard) (rOp ty gl lt r.op)::Ana all l
def Anb(all:List Oper):List Oper->Nat
 | []=>0
 | r::l=>uOp r.op ||| Al1 (Agn all r.guard) ||| Al2 r.dst ||| Anb all l
def Ago(all:List Oper)(out:Nat):List Oper->Nat
 | []=>out
 | r::l=>Agm (Ago all out l) (Al2 r.dst) ||| uOp r.op ||| Al1 (Agn all r.guard)
def Ayg:Ground->Nat->Nat
 | .textOnly _,_=>0
 | .gcOnly _,_=>0
 | .data,n=>1 <<< n
 | .chain,n=>1 <<< n
 | .guard,n=>1 <<< n
 | .phase,n=>1 <<< n
def Akz:List Edge->Nat
 | []=>0
 | e::l=>Ayg e.ground e.on ||| Akz l
def Al3:List Oper->List (List Nat)
 | []=>[]
 | r::l=>bits (Akz r.after.toList)::Al3 l
def Azo:Bool->List Nat->List Oper->List AI->AC
 | true,kill,os,l=>.drw kill (Al3 os) l
 | false,kill,_,l=>.reg kill l
def Agp:List (Nat × Nat)->Nat->Nat
 | [],_=>0
 | (i,m)::l,j=>match i==j with
  | true=>m
  | false=>Agp l j
def O2:Code->Nat
 | .seq a b=>O2 a+O2 b
 | .cond _ a b=>O2 a+O2 b
 | .block _ c=>O2 c
 | .scope c=>O2 c
 | .loop c=>O2 c+1
 | _=>0
def Ayh:Op->Bool
 | .makeInterface _ _=>true
 | .panic _=>true
 | _=>false
def Ae3:List Oper->Bool
 | []=>false
 | r::l=>match Ayh r.op with
  | true=>true
  | false=>Ae3 l
def Nw(rs:Nat):Code->List (Nat × Nat)->Nat->Nat
 | .skip,_,out=>out
 | .label _,_,out=>out
 | .ret,_,_=>rs
 | .exit i,ex,_=>Agp ex i
 | .seq a b,ex,out=>Nw rs a ex (Nw rs b ex out)
 | .cond c a b,ex,out=>Ds c ||| Nw rs a ex out ||| Nw rs b ex out
 | .block i c,ex,out=>Nw rs c ((i,out)::ex) out
 | .scope c,ex,out=>Nw rs c ex out
 | .loop c,ex,_=>
  let h1:=Nw rs c ex 0
  let h2:=h1 ||| Nw rs c ex h1
  let h3:=h2 ||| Nw rs c ex h2
  h3 ||| Nw rs c ex h3
 | .region _ ops _,_,out=>match Ae3 ops.toList with
  | true=>0
  | false=>Ago ops.toList out ops.toList
 | _,_,_=>0
def ixL:List AC->Nat->AC
 | [],_=>.skip
 | c::l,i=>match i==0 with
  | true=>c
  | false=>ixL l (i - 1)
def Rc(ls:List AC)(rs:Nat):Code->List (Nat × Nat)->Nat->Nat->AC × Nat × List AC
 | .skip,_,_,out=>(.skip,out,[])
 | .label _,_,_,out=>(.skip,out,[])
 | .ret,_,_,_=>(.ret,rs,[])
 | .exit i,ex,_,_=>(.exit i,Agp ex i,[])
 | .seq a b,ex,n,out=>
  let y:=Rc ls rs b ex (n+O2 a) out
  let x:=Rc ls rs a ex n y.2.1
  (.seq x.1 y.1,x.2.1,x.2.2++y.2.2)
 | .cond c a b,ex,n,out=>
  let x:=Rc ls rs a ex n out
  let y:=Rc ls rs b ex (n+O2 a) out
  (.cond (D1 gl c) (bits (Agm (Ds c) (x.2.1 ||| y.2.1))) x.1 y.1,Ds c ||| x.2.1 ||| y.2.1,x.2.2++y.2.2)
 | .block i c,ex,n,out=>
  let x:=Rc ls rs c ((i,out)::ex) n out
  (.blk i x.1,x.2.1,x.2.2)
 | .scope c,ex,n,out=>
  let x:=Rc ls rs c ex n out
  (.blk 1000000 x.1,x.2.1,x.2.2)
 | .loop c,ex,n,out=>
  let h:=Nw rs (.loop c) ex out
  let x:=Rc ls rs c ex n h
  (.loop (bits h) (ixL ls (n+O2 c)),h,x.2.2++[x.1])
 | .region _ ops d,_,_,out=>match Ae3 ops.toList with
  | true=>(.cond (.k .und) [] .skip .skip,0,[])
  | false=>(Azo d (bits (Agm (Anb ops.toList ops.toList) out)) ops.toList (Ana ty gl lt ops.toList ops.toList),Ago ops.toList out ops.toList,[])
 | _,_,_,_=>(.skip,0,[])
def Agq:List ResultVar->List AR
 | []=>[]
 | .tmp t::l=>.tmp t::Agq l
 | .cell t y::l=>.cell t (ty y).n (ty y).one::Agq l
def Abg:List ResultVar->Nat
 | []=>0
 | .tmp t::l=>1 <<< t ||| Abg l
 | .cell t _::l=>1 <<< t ||| Abg l
def Al4(ls:List AC)(rs:Nat):Option Code->AC × Nat × List AC
 | some c=>Rc ty gl lt ls rs c [] 0 rs
 | none=>(.skip,0,[])
def rF(p:Nat)(thr:Bool)(fn:Func)(ls:List AC):AF:=⟨p,Agq ty fn.results.toList,thr,(Al4 ty gl lt ls (Abg fn.results.toList) fn.body).1,none⟩
def Azp(fn:Func)(ls:List AC):AC:=ixL (Al4 ty gl lt ls (Abg fn.results.toList) fn.body).2.2 ls.length
end
attribute [go_sem] Ayb Akx Ay9 D1 Vc Agk Ayc Aky Al0 Aza Awj Ayd Ae1 Azb Azc Azd Aze Awk Azf Azg Azh Azi Aye rMk Azj Azk Azl Awl Ayf Azm rOp Ds Aa1 Agl Ae2 Azn uOp Abf bits Agm Agn Al1 Al2 rAI Ana Anb Ago Ayg Akz Al3 Azo Agp Ayh Ae3 O2 Nw ixL Rc Agq Abg Al4 rF Azp Nat.reduceShiftLeft Nat.reduceOr Nat.reduceAnd Nat.reduceXor Nat.reduceBEq Nat.reduceMod Nat.reduceDiv Nat.reduceSub
def I5(w:World):Ez:=fun b=>match w.heap[b]? with
 | some (.cells c _ _)=>some c.size
 | _=>none
def A0q{w:World}{b o:Nat}{v:Value}(h:w.cell? ⟨b,o,none⟩=some v):∃ k,I5 w b=some k/\o<k:=by
 unfold World.cell? at h;unfold I5
 grind
inductive HasT (P:Program):TypeId->List V->Prop
 | bool {t:TypeId} {b:Bool}:P.underlying t=some .bool->HasT P t [.bool b]
 | int {t:TypeId} {k:IntKind} {n:Int}:P.underlying t=some (.int k)->(Lit.int k n).wf=true->HasT P t [.int k n]
 | str {t:TypeId} {s:ByteArray}:P.underlying t=some .string->s.size<=maxLen->HasT P t [.str s.data.toList]
 | nils {t e:TypeId}:P.underlying t=some (.slice e)->HasT P t [.nils]
 | lst {t e:TypeId} {xs:List (List V)}:P.underlying t=some (.slice e)->xs.length<=maxLen->(∀ i,i<xs.length->HasT P e (xs.getD i []))->HasT P t [.lst 0 xs]
 | struct {t:TypeId} {fs:Array Field} (qa:List (List V)):P.underlying t=some (.struct fs)->qa.length=fs.size->(∀ i f,fs[i]?=some f->HasT P f.type (qa.getD i []))->HasT P t qa.flatten
 | array {t e:TypeId} {n:Nat} (qa:List (List V)):P.underlying t=some (.array n e)->qa.length=n->(∀ i,i<n->HasT P e (qa.getD i []))->HasT P t qa.flatten
mutual
def V.bulk:V->Nat
 | .str l=>l.length+1
 | .lst _ xs=>Cz xs+1
 | _=>1
def Cz:List (List V)->Nat
 | []=>0
 | r::rs=>C5 r+Cz rs
def C5:List V->Nat
 | []=>0
 | p::ps=>p.bulk+C5 ps
end
def Ahm(a b:List V):C5 (a++b)=C5 a+C5 b:=by
 induction a with
 | nil=>simp[C5]
 | cons x a ih=>grind[C5]
def Q7(P:Program):List Field->Nat->Nat->Bool
 | [],s,e=>s==e
 | f::fs,s,e=>f.offset==s&&Q7 P fs (s+P.cellsOf f.type) e
def Ba7(P:Program)(ts:List TypeId):Bool:=ts.all fun t=>
 match P.underlying t with
 | some .bool | some (.int _) | some .string=>true
 | some (.slice e)=>ts.contains e&&decide (0<P.cellsOf e)
 | some (.struct fs)=>fs.toList.all (fun f=>ts.contains f.type)&&Q7 P fs.toList 0 (P.cellsOf t)
 | some (.array n e)=>ts.contains e&&P.cellsOf t==n*P.cellsOf e
 | _=>false
def Ap2{α β:Type}{f:α->Option β}:∀ {l:List α} {r:List β},l.mapM f=some r->r.length=l.length/\∀ i (hi:i<l.length),f l[i]=r[i]?
 | [],r,h=>by
  grind
 | a::l,r,h=>by
  rw[J1]at h
  cases ha:f a with
  | none=>grind
  | some b=>
   cases hl:l.mapM f with
   | none=>grind
   | some r'=>
    simp[ha,hl]at h;subst h;obtain⟨h1,h2⟩:=Ap2 hl
    grind
structure RowAt {H:Type} (P:Program) (w:World) (t:TypeId) (cs:List Value) (d:DataW H) (qb:List V):Prop where
 len:qb.length=cs.length
 rep:∀ j,j<cs.length->RepR (I5 w) w (qb.getD j .und) (cs.getD j undef)
 typ:HasT P t qb
 bulk:C5 qb<=Rows.uptoBulk d
def Aog{H:Type}:∀ (xs:List (List V)) (ds:List (DataW H)),xs.length=ds.length->(∀ i,i<xs.length->∀ d,ds[i]?=some d->C5 (xs.getD i [])<=Rows.uptoBulk d)->Cz xs<=Rows.uptoBulkAll ds
 | [],ds,_,_=>by simp[Cz]
 | x::xs,[],h,_=>by simp at h
 | x::xs,d::ds,h,hb=>by
  have h0:=hb 0 AE d rfl;have:=Aog xs ds (by grind) (fun i hi d' hd=>by simpa using hb (i+1) (by grind) d' (by grind))
  grind[Cz,Rows.uptoBulkAll]
def Aox{α:Type}(a b:List α)(i:Nat)(d:α)(h:i<a.length):(a++b).getD i d=a.getD i d:=by
 grind
def Aui{Q:Nat->List V->Prop}:∀ (n:Nat),(∀ i,i<n->∃ r,Q i r)->∃ xs:List (List V),xs.length=n/\∀ i,i<n->Q i (xs.getD i [])
 | 0,_=>⟨[],rfl,fun i hi=>absurd hi AA⟩
 | n+1,h=>by
  obtain⟨xs,hl,hx⟩:=Aui n (fun i hi=>h i AA);obtain⟨r,hr⟩:=h n AA;refine⟨xs++[r],by simp[hl],fun i hi=>?_⟩
  grind
def Aoy{H:Type}{P:Program}{w:World}{cs:List Value}{g:Field->Option (DataW H × List MemPlace)}:
  ∀ (fl:List Field) (s e:Nat) (xs:List (DataW H × List MemPlace)),Q7 P fl s e=true->fl.mapM g=some xs->e<=cs.length ->
   (∀ f∈fl,∀ x,g f=some x->∃ qb,RowAt P w f.type ((cs.drop f.offset).take (P.cellsOf f.type)) x.1 qb) ->
   ∃ qa:List (List V),qa.length=fl.length/\s<=e/\qa.flatten.length=e - s/\(∀ i f,fl[i]?=some f->HasT P f.type (qa.getD i [])) /\
    (∀ j,j<e - s->RepR (I5 w) w (qa.flatten.getD j .und) (cs.getD (s+j) undef))/\C5 qa.flatten<=Rows.uptoBulkAll (xs.map (·.1))
 | [],s,e,xs,hc,hm,_,_=>by
  simp[Q7]at hc;simp at hm;subst hc hm;exact⟨[],rfl,An _,by simp,fun i f h=>by simp at h,fun j hj=>by omega,by simp[C5]⟩
 | f::fl,s,e,xs,hc,hm,he,hg=>by
  simp only[Q7,Ak,beq_iff_eq]at hc;rw[J1]at hm
  cases hf:g f with
  | none=>grind
  | some x=>
   cases hl:fl.mapM g with
   | none=>grind
   | some r=>
    simp[hf,hl]at hm;subst hm;obtain⟨qa,h1,h2,h3,h4,h5,h6⟩:=Aoy fl _ e r hc.2 hl he (fun f' qT=>hg f' (Db _ qT));obtain⟨qb,hp⟩:=hg f (Cr) x hf
    have qq:qb.length=P.cellsOf f.type:=by
     rw[hp.len,D5,E3,hc.1];omega
    refine⟨qb::qa,by simp[h1],by omega,by grind,fun i f' hi=>?_,fun j hj=>?_,?_⟩
    .cases i with
     | zero=>simp at hi;subst hi;simpa using hp.typ
     | succ i=>grind
    .rw[Fe];by_cases qy:j<P.cellsOf f.type
     .rw[Aox _ _ _ _ AA];have:=hp.rep j (by grind)
      grind
     grind
    .rw[Fe,Ahm,A2];simp only[Rows.uptoBulkAll];have:=hp.bulk;omega
def Ap3{H:Type}{P:Program}{w:World}{cs:List Value}{e:TypeId}{g:Nat->Option (DataW H × List MemPlace)}(hg:∀ i x,g i=some x->∃ qb,RowAt P w e ((cs.drop (i*P.cellsOf e)).take (P.cellsOf e)) x.1 qb):
  ∀ (n s:Nat) (xs:List (DataW H × List MemPlace)),(List.range' s n).mapM g=some xs->(s+n)*P.cellsOf e<=cs.length ->
   ∃ qa:List (List V),qa.length=n/\qa.flatten.length=n*P.cellsOf e/\(∀ i,i<n->HasT P e (qa.getD i [])) /\
    (∀ j,j<n*P.cellsOf e->RepR (I5 w) w (qa.flatten.getD j .und) (cs.getD (s*P.cellsOf e+j) undef))/\C5 qa.flatten<=Rows.uptoBulkAll (xs.map (·.1))
 | 0,s,xs,hm,_=>by
  simp at hm;subst hm;exact⟨[],rfl,by simp,fun i hi=>by omega,fun j hj=>by omega,by simp[C5]⟩
 | n+1,s,xs,hm,hl=>by
  rw[List.range'_succ,J1]at hm
  cases hf:g s with
  | none=>grind
  | some x=>
   cases hr:(List.range' (s+1) n).mapM g with
   | none=>grind
   | some r=>
    simp[hf,hr]at hm;subst hm;have el:(s+(n+1))*P.cellsOf e=s*P.cellsOf e+P.cellsOf e+n*P.cellsOf e:=by rw[Qu,F1];omega
    have es:(s+1)*P.cellsOf e=s*P.cellsOf e+P.cellsOf e:=F1 ..;obtain⟨qa,h1,h3,h4,h5,h6⟩:=Ap3 hg n (s+1) r hr (by grind);obtain⟨qb,hp⟩:=hg s x hf
    have qq:qb.length=P.cellsOf e:=by
     rw[hp.len,D5,E3];omega
    have en:(n+1)*P.cellsOf e=n*P.cellsOf e+P.cellsOf e:=F1 ..;refine⟨qb::qa,by simp[h1],by grind,fun i hi=>?_,fun j hj=>?_,?_⟩
    .cases i with
     | zero=>simpa using hp.typ
     | succ i=>grind
    .rw[Fe];by_cases qy:j<P.cellsOf e
     .rw[Aox _ _ _ _ AA];have:=hp.rep j (by grind)
      grind
     grind
    .rw[Fe,Ahm,A2];simp only[Rows.uptoBulkAll];have:=hp.bulk;omega
def Ba8(a:Addr)(n m:Nat)(h:a.spot=none):(a.add n).add m=⟨a.block,a.off+n+m,none⟩:=by
 unfold Addr.add
 split<;>split<;>simp_all<;>(cases a;simp_all)
def Wq{H:Type}(qn:TypeId × Value->H)(P:Program)(w:World)(qc:Nat->Bool)(qe:Bool)(ts:List TypeId)(qt:Ba7 P ts=true):
  ∀ (fuel:Nat) (t:TypeId) (cs:List Value) (d:DataW H) (ps:List MemPlace),t∈ts->DataW.trod qn P w 0 qc qe fuel t cs=some (d,ps)->∃ qb,RowAt P w t cs d qb
 | 0,_,_,_,_,_,h=>by simp_all [DataW.trod]
 | fuel+1,t,cs,d,ps,ht,h=>by
  have hp:=B6.1 qt t ht;simp only[DataW.trod]at h
  split at h
  .rename_i b hu;simp at h;obtain⟨rfl,_⟩:=h
   exact⟨[.bool b],rfl,(fun j hj=>by
    obtain rfl:j=0:=by grind
    exact .bool),.bool hu,by simp[C5,V.bulk,Rows.uptoBulk]⟩
  .rename_i k k' n hu
   split at h
   .rename_i hk;simp at h;obtain⟨rfl,_⟩:=h;obtain⟨rfl,jd⟩:=hk
    exact⟨[.int k' n],rfl,(fun j hj=>by
    obtain rfl:j=0:=by grind
    exact .int),.int hu jd,by simp[C5,V.bulk,Rows.uptoBulk]⟩
   grind
  .grind
  .rename_i s hu
   split at h
   .rename_i hs;simp at h;obtain⟨rfl,_⟩:=h;have qm:s.data.toList.length=s.size:=by rw[Array.length_toList];rfl
    exact⟨[.str s.data.toList],rfl,(fun j hj=>by
     obtain rfl:j=0:=by grind
     have hh:RepR (I5 w) w (.str s.data.toList) (.string ⟨s.data.toList.toArray⟩):=.str AA
     simp_all),.str hu hs,by simp[C5,V.bulk,Rows.uptoBulk]⟩
   grind
  .grind
  .grind
  .rename_i e hu;simp at h;obtain⟨rfl,_⟩:=h
   exact⟨[.nils],rfl,(fun j hj=>by
    obtain rfl:j=0:=by grind
    exact .nils),.nils hu,by simp[C5,V.bulk,Rows.uptoBulk]⟩
  .rename_i e a len cap hu;rw[hu]at hp;simp only[Ak,decide_eq_true_eq,Ab0]at hp
   split at h
   .rename_i hc;obtain⟨_,js,qS⟩:=hc
    cases hm:(List.range len).mapM (fun i=>(w.cells? 0 (a.add (i*P.cellsOf e)) (P.cellsOf e)).bind (DataW.trod qn P w 0 qc qe fuel e)) with
    | none=>grind
    | some elems=>
     simp only[hm,Cy,Cg]at h;obtain⟨jh,_,h⟩:=h;simp at h;obtain⟨rfl,_⟩:=h;obtain⟨hl,qD⟩:=Ap2 hm;simp only[List.length_range]at hl qD
     have jg:∀ i,i<len->∃ r,(∃ cs' x,(∀ j,j<P.cellsOf e->w.cell? ((a.add (i*P.cellsOf e)).add j)=some (cs'.getD j undef))/\elems[i]?=some x/\cs'.length=P.cellsOf e/\RowAt P w e cs' x.1 r):=by
      intro i hi;have h1:=qD i AA;simp only[Ab9]at h1;have qI:i<elems.length:=by omega
      cases qk:w.cells? 0 (a.add (i*P.cellsOf e)) (P.cellsOf e) with
      | none=>grind
      | some cs'=>
       obtain⟨_,qp,jm⟩:=World.cells?_some qk;rw[qk,Cy,Cd qI]at h1;obtain⟨r,hr⟩:=Wq qn P w qc qe ts qt fuel e cs' _ _ hp.1 h1
       grind
     obtain⟨xs,je,hx⟩:=Aui len jg
     have qK:0<len->a.spot=none:=fun h0=>by
      grind[World.cell?_spot,Addr.add]
     have qd:∀ i j,i<len->j<P.cellsOf e->∃ v,w.cell? ⟨a.block,a.off+i*P.cellsOf e+j,none⟩=some v/\RepR (I5 w) w ((xs.getD i []).getD j .und) v:=by
      intro i j hi hj;obtain⟨cs',x,hc,_,qp,hr⟩:=hx i hi;have h1:=hc j hj;rw[Ba8 _ _ _ (qK AA)]at h1;exact⟨_,h1,hr.rep j AA⟩
     refine⟨[.lst 0 xs],rfl,fun j hj=>?_,.lst hu AA (fun i hi=>?_),?_⟩
     .obtain rfl:j=0:=by grind
      show RepR (I5 w) w (.lst 0 xs) (.slice (some a) len cap);rw[<-je];refine .lst (m:=P.cellsOf e) (fun i j=>(w.cell? ⟨a.block,a.off+i*P.cellsOf e+j,none⟩).getD undef) (fun h=>by omega) AA qS (fun h0=>⟨qK AA,?_⟩) (fun i hi=>?_) (fun i j hi hj=>?_) (fun i j hi hj=>?_)
      .obtain⟨v,hv,_⟩:=qd (xs.length - 1) (P.cellsOf e - 1) AA AA;obtain⟨k,hk,qI⟩:=A0q hv;refine⟨k,hk,?_⟩
       have:(xs.length - 1)*P.cellsOf e+P.cellsOf e=xs.length*P.cellsOf e:=by
        rw[<-F1];congr 1;omega
       omega
      .obtain⟨cs',x,_,_,qp,hr⟩:=hx i AA;rw[hr.len,qp]
      .grind
      grind
     .obtain⟨_,_,_,_,_,hr⟩:=hx i AA;exact hr.typ
     .simp only[C5,V.bulk,Rows.uptoBulk]
      have:=Aog xs (elems.map (·.1)) (by grind) (fun i hi d' hd=>by
       obtain⟨_,x,_,he,_,hr⟩:=hx i AA;simp[he]at hd;subst hd
       exact hr.bulk)
      omega
   grind
  .rename_i fs hu;rw[hu]at hp;simp only[Ak,B6,Ab0]at hp
   split at h
   .rename_i qp;simp only[Cg]at h;obtain⟨xs,hm,h⟩:=h;simp at h;obtain⟨rfl,_⟩:=h;obtain⟨qa,h1,h2,h3,h4,h5,h6⟩:=Aoy (P:=P) (w:=w) (cs:=_) fs.toList 0 _ xs hp.2 hm AA (fun f hf x hx=>Wq qn P w qc qe ts qt fuel f.type _ x.1 x.2 (hp.1 f hf) hx);refine⟨qa.flatten,by omega,fun j hj=>by grind,.struct qa hu AA (fun i f hf=>h4 i f (by grind)),?_⟩
    grind[Rows.uptoBulk]
   grind
  .rename_i n e hu;rw[hu]at hp;simp only[Ak,beq_iff_eq,Ab0]at hp
   split at h
   .rename_i qp;simp only[Cg]at h;obtain⟨xs,hm,h⟩:=h;simp at h;obtain⟨rfl,_⟩:=h;rw[List.range_eq_range']at hm;obtain⟨qa,h1,h3,h4,h5,h6⟩:=Ap3 (P:=P) (w:=w) (e:=e) (cs:=_) (fun i x hx=>Wq qn P w qc qe ts qt fuel e _ x.1 x.2 hp.1 hx) n 0 xs hm (by grind);refine⟨qa.flatten,by omega,fun j hj=>by grind,.array qa hu h1 h4,?_⟩
    grind[Rows.uptoBulk]
   grind
  all_goals grind
section
open Go.RowKit
variable {P:Program} {G:List (Nat × List V)} {T:Nat->Option AF} {pr:Nat->Option (List V->Option V)}
def Agr:V->Bool
 | .bool _ | .int _ _ | .str _=>true
 | _=>false
theorem A3g{κ:Ez}{w:World}{v:V}{u:Value}(h:Ov v u=true)(hf:Agr v=true):RepR κ w v u:=by
 have h':RepC ⟨κ,[]⟩ w v u:=Acs h
 cases h' with
 | row h=>exact h
 | _=>cases hf
def Aoc:∀ {vs:List V} {us:List Value},Iv vs us=true->vs.length=us.length/\∀ j,j<vs.length->Ov (vs.getD j .und) (us.getD j undef)=true
 | [],[],_=>⟨rfl,fun j hj=>absurd hj AE⟩
 | v::vs,u::us,h=>by
  simp only[Iv,Ak]at h;obtain⟨h1,h2⟩:=Aoc h.2
  grind
def Xo(v:V)(u:Value):Prop:=(Ov v u=true/\Agr v=true)\/(v=.ifc/\∃ t p,u=.iface t p)
def A3h{κ:Ez}{w:World}{v:V}{u:Value}(h:Xo v u):RepR κ w v u:=by
 rcases h with⟨h1,h2⟩ | ⟨rfl,t,p,rfl⟩
 .grind[A3g]
 .exact .ifc
def A0z{r:List V}{us:List Value}(h:Iv r us=true)(hf:r.all Agr=true):r.length=us.length/\∀ j,j<r.length->Xo (r.getD j .und) (us.getD j undef):=by
 obtain⟨h1,h2⟩:=Aoc h;exact⟨h1,fun j hj=>.inl ⟨h2 j hj,B6.1 hf _ (by grind)⟩⟩
def Anc(G:List (Nat × List V))(w:World):Prop:=∀ g r,(g,r)∈G->∃ us e fz,w.heap[g]?=some (.cells us e fz)/\r.length=us.toList.length/\∀ j,j<r.length->Xo (r.getD j .und) (us.toList.getD j undef)
def Bog{w:World}(h:Anc G w):Inv G w.heap.size ⟨I5 w,[]⟩ [] w where
 base:=An _
 len:=rfl
 nd:=V5
 low:=fun i p h=>by simp at h
 obj:=fun i ob p h=>by simp at h
 dom:=fun b k hk=>by
  grind[I5]
 glob:=fun g r hg=>by
  obtain⟨us,e,fz,hh,hl,hj⟩:=h g r hg;have hk:I5 w g=some us.size:=by unfold I5;rw[hh]
  have:=RepC.imm (γ:=⟨I5 w,[]⟩) (w:=w) (r:=r) (off:=0) (b:=g) (o:=0) (k:=us.size) (fun j=>us.toList.getD j undef) hk (by grind) (fun j qF=>by
    grind[World.cell?]) (fun j qF=>A3h (hj j qF))
  omega
 gsz:=fun g r hg=>by
  obtain⟨us,e,fz,hh,hl,hj⟩:=h g r hg
  grind[El]
def A3i{σ:St}{v:V}{b:Bool}(h:D8 σ v=some (.bool b)):v=.bool b:=by
 unfold D8 Iw at h
 split at h
 .simp_all
 .unfold Gy at h
  split at h
  .cases h
  .simp_all
  .unfold Fh at h
   grind[Option.map_eq_some_iff]
def A3j(hT:∀ f F,T f=some F->F.spec=none->Rn P G f F=true)(hS:∀ f F s,T f=some F->F.spec=some s->S6 P G f s)(qX:∀ f s,pr f=some s->Iy P G f s){f:Nat}{vs:List V}{us:List Value}{w:World}(hf:Fn T pr f vs (.bool true))(hg:Anc G w)(hl:vs.length=us.length)
  (hr:∀ j,j<vs.length->RepV ⟨I5 w,[]⟩ w (vs.getD j .und) (us.getD j undef)):Calls P f us.toArray w fun e w'=>e=.returned (.bool true)/\Below w.heap.size w w':=by
 obtain⟨F,h1,h2,h3,v0,σ0,hE,hv⟩:=hf;have jc:=A3i hv;subst jc;refine(Ax2 hT hS qX hE us w ⟨I5 w,[]⟩ w.heap.size hl hr (Bog hg)).mono ?_;rintro _ w' ⟨u,γ',rfl,hu,_,_,hb,_⟩;exact⟨by rw[Pi (Bf rfl hu)],hb⟩
def Art{H:Type}{w:World}{t:TypeId}{v:Value}{d:DataW H}{qb:List V}(h:RowAt P w t v.cells.toList d qb)(hv:v.cells=#[v]):∃ p,qb=[p]/\RepV ⟨I5 w,[]⟩ w p v:=by
 have hl:=h.len;rw[hv]at hl;obtain⟨p,rfl⟩:=List.length_eq_one_iff.1 (show qb.length=1 by omega);have:=h.rep 0 (by grind);rw[hv]at this;exact⟨p,rfl,Dd (.row (by grind))⟩
def Ba9{H:Type}{w:World}{t:TypeId}{cs:Array Value}{d:DataW H}{qb:List V}(h:RowAt P w t (Value.agg cs).cells.toList d qb):RepV ⟨I5 w,[]⟩ w (.agg qb) (.agg cs):=by
 have h1:qb.length=cs.toList.length:=h.len;have:=Rep1.agg (γ:=⟨I5 w,[]⟩) (w:=w) (cs:=qb) (us:=cs.toList) h1 (fun j hj=>.row (h.rep j (by rw[<-h.len];exact hj)));exact .one AA
end
open Go Go.RowKit Go.Shelf
def A0r(w:World)(g n b:Nat)(h:b≠g):(w.freeze ⟨g,0,none⟩ n).heap[b]?=w.heap[b]?:=by
 unfold World.freeze
 grind
def A00(w:World)(g n:Nat){qh:Array Value}{e:TypeId}{lo hi:Nat}(h:w.heap[g]?=some (.cells qh e (lo,hi))):∃ qL ql,(w.freeze ⟨g,0,none⟩ n).heap[g]?=some (.cells qh e (qL,ql))/\ql<=max hi n:=by
 unfold World.freeze
 grind
section
variable {P:Program} {ρ:Ren}
set_option maxHeartbeats 1000000 in
set_option maxRecDepth 100000 in
def A1q(L:Lays.n169 P ρ)(X:Builder.Extra P ρ)(b g cap:Nat)(qh:Array Value)(fz:Nat × Nat)(l:List UInt8)(w:World)(h0:l≠[])(qv:w.cell? ⟨b,1,none⟩=some (.slice (some ⟨g,0,none⟩) l.length cap))
  (hg:w.heap[g]?=some (.cells qh (ρ.t 5) fz)) (jt:l.length<=cap) (qk:l.length<=qh.size) (hm:l.length<=9223372036854775807) (qd:∀ j x,l[j]?=some x->w.cell? ((⟨g,0,none⟩:Addr).add j)=some (.int .u8 x.toNat)) :
  Calls P (ρ.f 169) #[.pointer (some ⟨b,0,none⟩)] w fun e w'=>e=.returned (.string ⟨l.toArray⟩)/\w'=w.drew.freeze ⟨g,0,none⟩ l.length:=by
 have jq:l.length≠0:=by simpa using h0
 have c1:w.drew.cell? ⟨b,1,none⟩=some (.slice (some ⟨g,0,none⟩) l.length cap):=qv
 have qN:(Builtin.unsafeSliceData_ #[(ρ.t 37)] (ρ.t 127) #[.slice (some ⟨g,0,none⟩) l.length cap]).run P w.drew=.ok (.pointer (some ⟨g,0,none⟩)) w.drew:=
  Lib.run_unsafeSliceData_row _ _ _ _ _ _ AA
 have qO:(Builtin.unsafeString_ #[(ρ.t 127),(ρ.t 3)] (ρ.t 9) #[.pointer (some ⟨g,0,none⟩),.int .i64 l.length]).run P w.drew=.ok (.string ⟨l.toArray⟩) (w.drew.freeze ⟨g,0,none⟩ l.length):=
  Lib.run_unsafeString_row w.drew (ρ.t 127) (ρ.t 3) (ρ.t 9) (ρ.t 5) L.t127 X.cellsByte g qh.size (by have jo:w.drew.heap[g]?=some (.cells qh (ρ.t 5) fz):=hg;grind[World.shape?]) l h0 qk hm qd
 have mixed:=L.mixed;have t72:=L.t72;have a72:=L.a72;have z72:=L.z72;have v72:=L.v72;have jk:=run_underlying L.t72;have t70:=L.t70;have a70:=L.a70;have z70:=L.z70;have v70:=L.v70;have jj:=run_underlying L.t70;have t37:=L.t37;have a37:=L.a37;have z37:=L.z37;have v37:=L.v37;have ji:=run_underlying L.t37;have t127:=L.t127;have a127:=L.a127;have z127:=L.z127;have v127:=L.v127;have qA:=run_underlying L.t127;have t3:=L.t3;have a3:=L.a3;have z3:=L.z3;have v3:=L.v3;have u3:=run_underlying L.t3;have t9:=L.t9;have a9:=L.a9;have z9:=L.z9;have v9:=L.v9;have u9:=run_underlying L.t9;have t5:=X.t5;have a5:=X.a5;have z5:=X.z5;have v5:=X.v5;have u5:=run_underlying X.t5
 go_enter L.f169,Body.n169_ntmps ρ
 go_wp2
 go_region_o
 all_goals (go_wp2;go_ret;simp_all)
set_option maxHeartbeats 1000000 in
set_option maxRecDepth 100000 in
def A1r(L:Lays.n169 P ρ)(X:Builder.Extra P ρ)(b:Nat)(w:World)(qv:w.cell? ⟨b,1,none⟩=some (.slice none 0 0)):
  Calls P (ρ.f 169) #[.pointer (some ⟨b,0,none⟩)] w fun e w'=>e=.returned (.string ⟨#[]⟩)/\w'=w.drew:=by
 have qO:=Any.unsafeString_none L X;have c1:w.drew.cell? ⟨b,1,none⟩=some (.slice none 0 0):=qv;have qN:(Builtin.unsafeSliceData_ #[(ρ.t 37)] (ρ.t 127) #[.slice none 0 0]).run P w.drew=.ok (.pointer none) w.drew:=rfl;have mixed:=L.mixed;have t72:=L.t72;have a72:=L.a72;have z72:=L.z72;have v72:=L.v72;have jk:=run_underlying L.t72;have t70:=L.t70;have a70:=L.a70;have z70:=L.z70;have v70:=L.v70;have jj:=run_underlying L.t70;have t37:=L.t37;have a37:=L.a37;have z37:=L.z37;have v37:=L.v37;have ji:=run_underlying L.t37;have t127:=L.t127;have a127:=L.a127;have z127:=L.z127;have v127:=L.v127;have qA:=run_underlying L.t127;have t3:=L.t3;have a3:=L.a3;have z3:=L.z3;have v3:=L.v3;have u3:=run_underlying L.t3;have t9:=L.t9;have a9:=L.a9;have z9:=L.z9;have v9:=L.v9;have u9:=run_underlying L.t9;have t5:=X.t5;have a5:=X.a5;have z5:=X.z5;have v5:=X.v5;have u5:=run_underlying X.t5
 go_enter L.f169,Body.n169_ntmps ρ
 go_wp2
 go_region_o
 all_goals (go_wp2;go_ret;exact⟨rfl,rfl⟩)
end
def A01(w:World)(b:Nat)(us:Array Value)(e:TypeId)(u:Value){fz:Nat × Nat}(h:w.heap[b]?=some (.cells us e fz)):w.setCell ⟨b,0,none⟩ u=w.setRow b (us.setIfInBounds 0 u):=by
 unfold World.setCell World.setRow;congr 1
 grind
def Aoh:∀ {xs:List (List V)} {l:List UInt8},Un xs=some l->l.length=xs.length/\∀ (j:Nat) x,l[j]?=some x->xs.getD j []=[.int .u8 (x.toNat:Int)]
 | [],l,h=>by
  simp[Un]at h
  grind
 | r::xs,l,h=>by
  unfold Un at h
  split at h
  .grind
  .rename_i n r' e;injection e with e1 e2;subst e1 e2
   split at h
   .rename_i hn;simp only[Cg]at h;obtain⟨l',h,rfl⟩:=h;obtain⟨g1,g2⟩:=Aoh h
    grind[UInt8.toNat_ofNat']
   grind
  grind
/-! copyCheck -/
def Aj1:Tryz.prog.underlying 214=some (.pointer 216):=by kernel_rfl
def Aru:(Tryz.prog.info? 216).map (·.size)=some 2:=by kernel_rfl
theorem Ap4:Tryz.prog.cellsOf 216=2:=by kernel_rfl
def A6j:sameLayout Tryz.prog Tryz.prog.depth 216 216=true:=by kernel_rfl
def A3k:∃ d,Tryz.prog.depth=d+1:=⟨Tryz.prog.depth - 1,by kernel_rfl⟩
theorem A6k(n:Nat)(hn:1<=n):liesAt Tryz.prog Tryz.prog.depth 216 n 0 216 1=true:=by
 obtain⟨d,hd⟩:=A3k
 have hr:rowAt Tryz.prog (sameLayout Tryz.prog Tryz.prog.depth · 216) Tryz.prog.depth 216 n 0 1=true:=by
  have:=A6j;generalize hf:(fun x=>sameLayout Tryz.prog Tryz.prog.depth x 216)=f;have qU:f 216=true:=by rw[<-hf];exact this
  rw[hd];unfold rowAt;simp[Ap4,qU,hn]
 grind[liesAt]
def Aoz:Tryz.prog.underlying 284=some .unsafePointer:=by kernel_rfl
set_option maxHeartbeats 1000000 in
set_option maxRecDepth 100000 in
def Bba(b:Nat)(w:World)(h0:w.cell? ⟨b,0,none⟩=some (.pointer (some ⟨b,0,none⟩))):
  Calls Tryz.prog 222 #[.pointer (some ⟨b,0,none⟩)] w fun e w'=>e=.returned (.tuple #[])/\w'=w:=by
 obtain⟨j,hj,_⟩:=Cg.1 Aru
 go_enter Tryz.func222,Tryz.ntmps222
 go_wp2
 rw[Lib.run_neq_ptr_same w _ Aj1 hj]
 go_wp2
 go_end0
 grind
set_option maxHeartbeats 1000000 in
set_option maxRecDepth 100000 in
def A6l(b:Nat)(w:World)(h0:w.cell? ⟨b,0,none⟩=some (.pointer none))(n:Nat)(hn:2<=n)(qJ:w.shape? b=some (216,n))(jn:w.frozen? ⟨b,0,none⟩=false):
  Calls Tryz.prog 222 #[.pointer (some ⟨b,0,none⟩)] w fun e w'=>e=.returned (.tuple #[])/\w'=w.setCell ⟨b,0,none⟩ (.pointer (some ⟨b,0,none⟩)):=by
 obtain⟨j,hj,qG⟩:=Cg.1 Aru
 go_enter Tryz.func222,Tryz.ntmps222
 go_wp2
 rw[Lib.run_to_unsafe w ⟨b,0,none⟩ Aj1 Aoz hj AA qJ (by grind)];simp only[Result.andThen];rw[Oper.upon_value]
 go_wp2
 rw[run_callFunc_extern Tryz.func236 AD AD AD (e:=Extern.AbiNoEscape.same) AD];rw[Lib.run_noEscape];simp only[Result.andThen];rw[Oper.upon_value]
 go_wp2
 rw[Lib.run_from_unsafe w ⟨b,0,none⟩ Aoz Aj1 hj qJ (by grind[Ap4,A6k])];simp only[Result.andThen];rw[Oper.upon_value]
 go_wp2
 go_end0
 grind
/-! what they do -/
def X9(tB:Nat):List V->St->Option (V × St)
 | [.ptr b g 0],σ=>match σ[b]? with
  | some (.row [.nilp,x] e g' 0)=>if g=g'/\e=tB then some (.tup [],σ.set b (.row [.ptr b g 0,x] e g 0)) else none
  | some (.row [.ptr b' g2 0,_] _ g' _)=>if g=g'/\b'=b/\g2=g then some (.tup [],σ) else none
  | _=>none
 | _,_=>none
def Vl(tB tE:Nat):List V->St->Option (V × St)
 | [.ptr b g 0],σ=>match σ[b]? with
  | some (.row [_,.nils] e g' _)=>if g=g'/\e=tB then some (.str [],σ) else none
  | some (.row [_,.sl i gi 0 len 1 _] e g' _)=>if g=g'/\e=tB/\0<len then(match σ[i]? with
   | some (.row cs e' qB _)=>if gi=qB/\e'=tE/\len<=cs.length then(Un (Fk 1 len cs)).map fun l=>(.str l,σ.set i .dead) else none
   | _=>none) else none
  | _=>none
 | _,_=>none
section
variable {G:List (Nat × List V)} {N:Nat} {γ:Gh} {σ:St} {w:World}
def Inv.kill(h:Inv G N γ σ w){i k:Nat}{p:Nat × Nat}{cs:List V}{e g z:Nat}(hp:γ.O[i]?=some p)(ho:σ[i]?=some (.row cs e g z)):
  Inv G N γ (σ.set i .dead) (w.freeze ⟨p.1,0,none⟩ k)/\Ext γ w γ (w.freeze ⟨p.1,0,none⟩ k)/\Below N w (w.freeze ⟨p.1,0,none⟩ k):=by
 obtain⟨q,hq,h1,h2,h3,us,lo,hi,h4,h5,h6,h7⟩:=h.of ho;rw[hp]at hq;injection hq with hq;subst hq;obtain⟨qL,ql,f1,f2⟩:=A00 w p.1 k h4
 have qm:(w.freeze ⟨p.1,0,none⟩ k).heap.size=w.heap.size:=by unfold World.freeze;split<;>simp
 have hs:El (w.freeze ⟨p.1,0,none⟩ k) p.1=El w p.1:=by simp[El,f1,h4]
 have:=h.turn (w':=w.freeze ⟨p.1,0,none⟩ k) (p':=p) (ob':=.dead) (κ':=γ.κ) hp AA (fun b _ hb=>A0r w p.1 k b hb) (fun _ _ _=>rfl) (fun b k hk=>by rw[qm];exact h.dom b k hk) (fun z' hz=>⟨z',hz,An _,fun o _=>by grind[World.cell?]⟩) (An _) (fun _=>⟨rfl,hs⟩) (.inl rfl) (fun _=>by show p.1<_;grind);rw[M9 hp]at this;exact⟨this.1,this.2,Lib.below_freeze (Below.refl N w) (p:=⟨p.1,0,none⟩) (h.low i p hp) k⟩
end
def Bki{G:List (Nat × List V)}:S6 Tryz.prog G 222 (X9 216):=by
 refine⟨⟨Tryz.f222,_,by kernel_rfl,rfl,by decide⟩,fun args σ v σ' h us w γ N hl ha hI=>?_⟩;unfold X9 at h
 split at h
 .rename_i b g
  match us,hl with
  | [u],_=>
  have hu:=ha 0 AE;obtain⟨b1,blk,g1,qj,hB,qs,qo⟩:=Pm (Bf rfl hu);have qj:u=.pointer (some ⟨b1,0,none⟩):=qj;subst qj
  split at h
  .rename_i x e g' hb
   split at h
   .rename_i qi;cases h;obtain⟨rfl,rfl⟩:=qi;obtain⟨p,hp,q1,q2,q3,us,lo,hi,q4,q5,q6,q7⟩:=hI.of hb;rw[hB]at hp;cases hp;have q1:g1=g:=q1;subst q1;obtain rfl:=qo rfl;have q4:w.heap[b1]?=some (.cells us 216 (lo,hi)):=q4;have q6:2<=us.size:=q6;have c0:us.getD 0 undef=.pointer none:=Uf (q7 0 AE);have c1:=q7 1 AE
    have qw:w.cell? ⟨b1,0,none⟩=some (.pointer none):=by
     simp[World.cell?,q4];have:us.getD 0 undef=us[0]:=by simp[Array.getD,show 0<us.size by omega]
     rw[<-c0,this];simp
    refine(A6l b1 w qw us.size q6 (by grind[World.shape?]) (by
     grind[World.frozen?])).mono ?_
    rintro e w' ⟨rfl,rfl⟩;rw[A01 w b1 us _ _ q4]
    obtain⟨i1,i2⟩:=hI.write (g':=g1) (us':=us.setIfInBounds 0 (.pointer (some ⟨b1,0,none⟩))) (cs':=[.ptr b g1 0,x]) hB hb q4 q5 (An _) (Av _) AE q6 (fun o ho=>by omega) (fun j hj=>by
     match j,hj with
     | 0,_=>
      have:(us.setIfInBounds 0 (.pointer (some ⟨b1,0,none⟩))).getD 0 undef=.pointer (some ⟨b1,0,none⟩):=by simp[Array.getD_eq_getD_getElem?,show 0<us.size by omega]
      rw[this];exact .ptr hB (An _) (fun _=>rfl)
     | 1,_=>
      have:(us.setIfInBounds 0 (.pointer (some ⟨b1,0,none⟩))).getD 1 undef=us.getD 1 undef:=by simp[Array.getD_eq_getD_getElem?,Array.getElem?_setIfInBounds]
      grind)
    exact⟨_,_,rfl,.tup rfl (fun j hj=>by grind),i1,i2,Acj _ (hI.low _ _ hB),fun _ _=>rfl⟩
   grind
  .rename_i b' g2 x e g' z hb
   split at h
   .rename_i qi;cases h;obtain⟨rfl,rfl,rfl⟩:=qi;obtain⟨p,hp,q1,q2,q3,us,lo,hi,q4,q5,q6,q7⟩:=hI.of hb;rw[hB]at hp;cases hp;have q1:g1=g2:=q1;subst q1;obtain rfl:=qo rfl;have q4:w.heap[b1]?=some (.cells us e (lo,hi)):=q4;have q6:2<=us.size:=q6;obtain⟨b2,qM,g3,c0,qC,_,qu⟩:=Pm (q7 0 AE);rw[hB]at qC;cases qC;obtain rfl:=qu rfl
    have qw:w.cell? ⟨b2,0,none⟩=some (.pointer (some ⟨b2,0,none⟩)):=by
     simp[World.cell?,q4];have:us.getD 0 undef=us[0]:=by simp[Array.getD,show 0<us.size by omega]
     rw[<-c0,this];simp
    refine(Bba b2 w qw).mono ?_;rintro e w' ⟨rfl,rfl⟩;exact⟨_,γ,rfl,.tup rfl (fun j hj=>by grind),hI,Ext.refl _ _,Below.refl _ _,fun _ _=>rfl⟩
   grind
  grind
 grind
def Bga{G:List (Nat × List V)}:S6 Tryz.prog G 166 (Vl 216 5):=by
 refine⟨⟨Tryz.f166,_,by kernel_rfl,rfl,by decide⟩,fun args σ v σ' h us w γ N hl ha hI=>?_⟩;unfold Vl at h
 split at h
 .rename_i b g
  match us,hl with
  | [u],_=>
  have hu:=ha 0 AE;obtain⟨b1,blk,g1,qj,hB,qs,qo⟩:=Pm (Bf rfl hu);have qj:u=.pointer (some ⟨b1,0,none⟩):=qj;subst qj
  split at h
  .rename_i x e g' z hb
   split at h
   .rename_i qi;cases h;obtain⟨rfl,rfl⟩:=qi;obtain⟨p,hp,q1,q2,q3,us,lo,hi,q4,q5,q6,q7⟩:=hI.of hb;rw[hB]at hp;cases hp;have q1:g1=g:=q1;subst q1;obtain rfl:=qo rfl;have q4:w.heap[b1]?=some (.cells us 216 (lo,hi)):=q4;have q6:2<=us.size:=q6;have c1:us.getD 1 undef=.slice none 0 0:=Mj (q7 1 AE)
    have qr:w.cell? ⟨b1,1,none⟩=some (.slice none 0 0):=by
     simp[World.cell?,q4];have:us.getD 1 undef=us[1]:=by simp[Array.getD,show 1<us.size by omega]
     rw[<-c1,this];simp
    refine(A1r Tryz.lays169 Tryz.Builder_Extra_169 b1 w qr).mono ?_;rintro e w' ⟨rfl,rfl⟩;obtain⟨d1,d2⟩:=hI.drew;exact⟨_,γ,rfl,Dd (.row (.str (by grind))),d1,d2,(Below.refl N w).drew,fun _ _=>rfl⟩
   grind
  .rename_i x i gi len own e g' z hb
   split at h
   .rename_i qi;obtain⟨rfl,rfl,qW⟩:=qi
    split at h
    .rename_i cs e' qB zi ql
     split at h
     .rename_i hc;obtain⟨rfl,rfl,qq⟩:=hc;simp only[Cg]at h;obtain⟨l,qY,h⟩:=h;cases h;obtain⟨p,hp,q1,q2,q3,us,lo,hi,q4,q5,q6,q7⟩:=hI.of hb;rw[hB]at hp;cases hp;have q1:g1=g:=q1;subst q1;obtain rfl:=qo rfl;have q4:w.heap[b1]?=some (.cells us 216 (lo,hi)):=q4;have q6:2<=us.size:=q6;obtain⟨bb,oo,cap,bk,gk,c1,k1,k2,k3,k4,k5,k6⟩:=Wz (q7 1 AE);have c1:us.getD 1 undef=.slice (some ⟨bb,oo,none⟩) len cap:=c1;obtain⟨p,hp,r1,r2,r3,vs,Mf,qE,r4,r5,r6,r7⟩:=hI.of ql;rw[k1]at hp;cases hp;have r1:gk=gi:=r1;subst r1;obtain⟨rfl,_⟩:=k6 rfl;obtain rfl:=k5 AA;have r4:w.heap[bb]?=some (.cells vs 5 (Mf,qE)):=r4;obtain⟨n1,n2⟩:=Aoh qY;have qH:l.length=len:=by rw[n1];simp[Zr]
      have qr:w.cell? ⟨b1,1,none⟩=some (.slice (some ⟨bb,0,none⟩) l.length cap):=by
       rw[qH];simp[World.cell?,q4];have:us.getD 1 undef=us[1]:=by simp only[Array.getD];rw[dif_pos (show 1<us.size by omega)];rfl
       rw[<-c1,this];simp
      refine(A1q Tryz.lays169 Tryz.Builder_Extra_169 b1 bb cap vs (Mf,qE) l w (by grind) qr r4 AA AA (by grind[maxLen]) (fun j x hj=>?_)).mono ?_
      .have qy:j<len:=by rw[<-qH];exact(Al.1 hj).1
       have a1:=n2 j x hj;have a2:=r7 j AA
       have qR:cs.getD j .und=.int .u8 (x.toNat:Int):=by
        rw[Zr]at a1;have qx:j<cs.length:=by omega
        simp[E0,qy,qx]at a1;rw[E0,Cd qx];rw[List.take_one]at a1;simpa[qx] using a1
       rw[qR]at a2;have a3:=Et a2;rw[Mk];have qG:j<vs.size:=by omega
       have:vs.getD j undef=vs[j]:=by simp[Array.getD,qG]
       grind[World.cell?]
      .rintro e w' ⟨rfl,rfl⟩;obtain⟨d1,d2⟩:=hI.drew;obtain⟨f1,f2,f3⟩:=d1.kill (k:=l.length) k1 ql;exact⟨_,γ,rfl,Dd (.row (.str AA)),f1,d2.trans f2,((Below.refl N w).drew).trans f3,fun _ _=>rfl⟩
     grind
    grind
   grind
  grind
 grind
open Go Go.RowKit
def Di(zs:List Int):List V:=zs.map (V.int .i64)
def U2:List V->Option (List Int)
 | []=>some []
 | .int .i64 n::l=>(U2 l).map (n::·)
 | _=>none
def Arv:∀ zs:List Int,U2 (Di zs)=some zs
 | []=>rfl
 | z::zs=>by
  have:=Arv zs;unfold Di at this ⊢;rw[A2,U2,this];rfl
def A3l{cs:List V}:∀ {zs:List Int},U2 cs=some zs->cs=Di zs:=by
 induction cs with
 | nil=>intro zs h;cases h;rfl
 | cons c l ih=>
  intro zs h;unfold U2 at h
  split at h
  .rename_i e;cases e
  .rename_i n l' e;cases e
   cases h1:U2 l with
   | none=>rw[h1]at h;cases h
   | some ys=>
    rw[h1]at h;cases h;rw[ih h1];rfl
  .cases h
section
variable {G:List (Nat × List V)} {N:Nat} {γ:Gh} {σ:St} {w:World}
def A3m(hI:Inv G N γ σ w){i g e b:Nat}{zs:List Int}(hO:γ.O[i]?=some (b,g))(ho:σ[i]?=some (.row (Di zs) e g 0)):Sort.Holds (Value.int .i64) w b 0 zs.toArray:=by
 obtain⟨p,hp,h1,h2,h3,us,lo,hi,h4,h5,h6,h7⟩:=hI.of ho;rw[hO]at hp;cases hp;have h4:w.heap[b]?=some (.cells us e (lo,hi)):=h4;have h6:zs.length<=us.size:=by simpa[Di] using h6
 intro j hj;have hj:j<zs.length:=by simpa using hj
 have h8:=h7 j (by simpa[Di] using hj);have e1:(Di zs).getD j .und=.int .i64 zs[j]:=by simp[Di,hj]
 rw[e1]at h8;have e2:us.getD j undef=.int .i64 zs[j]:=Et h8;have e3:us.getD j undef=us[j]:=by simp[Array.getD,show j<us.size by omega]
 have e4:(zs.toArray[j]!)=zs[j]:=by rw[getElem!_pos zs.toArray j (by simpa using hj)];simp
 constructor
 .simp[World.cell?,h4,F9,show j<us.size by omega];rw[<-e3,e2,<-e4];simp[hj]
 .simp only[World.frozen?,h4,F9]
  rcases h5 with⟨a1,a2 | a2⟩<;>simp<;>omega
def A1s(hI:Inv G N γ σ w){i g e b n:Nat}{zs zs':List Int}{os:Array Obj}(hO:γ.O[i]?=some (b,g))(ho:σ[i]?=some (.row (Di zs) e g 0))(hl:zs'.length=zs.length):
  Inv G N γ (σ.set i (.row (Di zs') e g 0)) (Sort.grow (Sort.putRow (Value.int .i64) (Sort.ahead w n) b 0 zs'.toArray) os)/\Ext γ w γ (Sort.grow (Sort.putRow (Value.int .i64) (Sort.ahead w n) b 0 zs'.toArray) os)/\Below N w (Sort.grow (Sort.putRow (Value.int .i64) (Sort.ahead w n) b 0 zs'.toArray) os):=by
 obtain⟨p,hp,h1,h2,h3,us,lo,hi,h4,h5,h6,h7⟩:=hI.of ho;rw[hO]at hp;cases hp;have h4:w.heap[b]?=some (.cells us e (lo,hi)):=h4;have h6:zs.length<=us.size:=by simpa[Di] using h6
 have qm:(Sort.putCells (Value.int .i64) 0 zs'.toArray us).size=us.size:=by simp[Sort.putCells]
 have hc:∀ j,j<(Di zs').length->RepC γ w ((Di zs').getD j .und) ((Sort.putCells (Value.int .i64) 0 zs'.toArray us).getD j undef):=by
  intro j hj;have hj:j<zs'.length:=by simpa[Di] using hj
  have e1:(Di zs').getD j .und=.int .i64 zs'[j]:=by simp[Di,hj]
  have e2:(Sort.putCells (Value.int .i64) 0 zs'.toArray us).getD j undef=.int .i64 zs'[j]:=by
   have e4:(zs'.toArray[j]!)=zs'[j]:=by rw[getElem!_pos zs'.toArray j (by simpa using hj)];simp
   simp[Sort.putCells,Array.getD_eq_getD_getElem?,Array.getElem?_mapIdx,show j<us.size by omega,hj]
  rw[e1,e2];exact .row .int
 obtain⟨i1,i2⟩:=hI.write (g':=g) (us':=Sort.putCells (Value.int .i64) 0 zs'.toArray us) (cs':=Di zs') hO ho h4 h5 (An _) (Av _) qm (by simp[Di];omega) (fun o ho=>by omega) hc;rw[M9 hO]at i1 i2;have hb:b<w.heap.size:=hI.oblt hO
 have qf:∀ k,k<(w.setRow b (Sort.putCells (Value.int .i64) 0 zs'.toArray us)).heap.size->(Sort.grow (Sort.putRow (Value.int .i64) (Sort.ahead w n) b 0 zs'.toArray) os).heap[k]?=(w.setRow b (Sort.putCells (Value.int .i64) 0 zs'.toArray us)).heap[k]?:=by
  intro k hk;have hk:k<w.heap.size:=by simpa[World.setRow] using hk
  rw[Sort.heap_grow_old _ _ (by simpa[Sort.putRow,Sort.mapBlock,Sort.ahead] using hk)];simp only[Sort.putRow,Sort.mapBlock,Sort.ahead,Array.getElem?_modify];by_cases qz:b=k
  .subst qz;rw[setRow_heap w b us _ e _ h4,if_pos rfl,h4];rfl
  .rw[if_neg qz,setRow_other w b k _ (Ne.symm qz)]
 have hs:(w.setRow b (Sort.putCells (Value.int .i64) 0 zs'.toArray us)).heap.size<=(Sort.grow (Sort.putRow (Value.int .i64) (Sort.ahead w n) b 0 zs'.toArray) os).heap.size:=by
  simp[World.setRow,Sort.putRow,Sort.mapBlock,Sort.ahead]
 obtain⟨j1,j2⟩:=i1.more (κ':=γ.κ) qf hs (fun _ _=>rfl) (fun b k hk=>Pd (i1.dom b k hk) hs);refine⟨j1,i2.trans j2,⟨rfl,rfl,rfl,?_,fun k hk=>?_⟩⟩
 .have:(w.setRow b (Sort.putCells (Value.int .i64) 0 zs'.toArray us)).heap.size=w.heap.size:=by simp[World.setRow]
  omega
 .have h9:=hI.base;rw[qf k (by have:(w.setRow b (Sort.putCells (Value.int .i64) 0 zs'.toArray us)).heap.size=w.heap.size:=(by simp[World.setRow]);omega),setRow_other w b k _ (by have:=hI.low _ _ hO;simp at this;omega)]
end
/-! what they do -/
def Jp(zs:List Int):List Int:=zs.mergeSort fun x y=>decide (x<=y)
def Abh:List V->St->Option (V × St)
 | [.nils],σ=>some (.tup [],σ)
 | [.sl i g 0 len 1 _],σ=>match σ[i]? with
  | some (.row cs e g' 0)=>match U2 cs with
   | some zs=>if g=g'/\zs.length=len/\len<4611686018427387904 then some (.tup [],σ.set i (.row (Di (Jp zs)) e g' 0)) else none
   | none=>none
  | _=>none
 | _,_=>none
def Ac6(zs:List Int):(Jp zs).length=zs.length:=List.length_mergeSort _
def A6m{γ:Gh}{w:World}{i g len m:Nat}{own:Bool}{u:Value}(h:RepC γ w (.sl i g 0 len m own) u):∃ blk g' b' o' cap,u=.slice (some ⟨b',o',none⟩) len cap/\γ.O[i]?=some (blk,g')/\g<=g'/\len<=cap/\cap<=maxLen/\(0<cap->o'=0)/\(g=g'->b'=blk/\(own=true->El w blk=some (0+cap*m))):=by
 cases h with
 | row h=>cases h
 | sl h1 h2 h3 h4 h5 h6=>exact⟨_,_,_,_,_,rfl,h1,h2,h3,h4,h5,h6⟩
def Bgb{G:List (Nat × List V)}:S6 Tryz.prog G 52 Abh:=by
 refine⟨⟨Tryz.f52,_,by kernel_rfl,rfl,by decide⟩,fun args σ v σ' h us w γ N hl ha hI=>?_⟩;unfold Abh at h
 split at h
 .cases h
  match us,hl with
  | [u],_=>
  have hu:u=.slice none 0 0:=Mj (Bf rfl (ha 0 AE));subst hu;refine(Tryz.slices_Sort_int_none none 0 w).mono ?_;rintro e w' ⟨rfl,rfl⟩;exact⟨_,γ,rfl,.tup rfl (fun j hj=>by simp at hj),hI,Ext.refl _ _,Below.refl _ _,fun _ _=>rfl⟩
 .rename_i i g len own
  match us,hl with
  | [u],_=>
  obtain⟨blk,g1,b',o',cap,rfl,hO,jp,qr,jl,qP,qQ⟩:=A6m (Bf rfl (ha 0 AE))
  split at h
  .rename_i cs e g' hi
   split at h
   .rename_i zs hz
    split at h
    .rename_i hc;cases h;obtain⟨rfl,rfl,qm⟩:=hc;have qk:=A3l hz;subst qk;obtain⟨p,hp,q1,-⟩:=hI.of hi;rw[hO]at hp;cases hp;have q1:g1=g:=q1;subst q1;obtain⟨rfl,-⟩:=qQ rfl;rcases V1 cap with h0 | h0
     .have hn:zs=[]:=M6.1 AA;subst hn;subst h0;refine(Tryz.slices_Sort_int_none (some ⟨b',o',none⟩) 0 w).mono ?_;rintro e w' ⟨rfl,rfl⟩;rw[show Jp []=[] by simp[Jp],M9 hi];exact⟨_,γ,rfl,.tup rfl (fun j hj=>by simp at hj),hI,Ext.refl _ _,Below.refl _ _,fun _ _=>rfl⟩
     .obtain rfl:=qP h0;refine(Tryz.slices_Sort_int b' 0 cap zs w (A3m hI hO hi) (hI.oblt hO) qm).mono ?_;rintro e w' ⟨rfl,n,os,rfl⟩;obtain⟨i1,i2,i3⟩:=A1s (n:=n) (os:=os) (zs':=Jp zs) hI hO hi (Ac6 zs);exact⟨_,γ,rfl,.tup rfl (fun j hj=>by simp at hj),i1,i2,i3,fun _ _=>rfl⟩
    .cases h
   .cases h
  .cases h
 .cases h
open Go Go.RowKit
def grow_ren:Go.Shelf.Ren:=⟨fun | 4=>141 | n=>n,fun | 22=>49 | 25=>3 | n=>n,fun | n=>n⟩
def Ap5:Lays8.n4 Tryz.prog grow_ren where
 mixed:=by kernel_rfl
 f4:=⟨ "slices.Grow[[]int,int]",by decide,Tryz.func141.trans (congrArg some AD)⟩
 t0:=Tryz.underlying0
 a0:=Tryz.isAgg0
 z0:=Tryz.sizeOf0
 v0:=Tryz.zeroValue0
 t3:=Tryz.underlying3
 a3:=Tryz.isAgg3
 z3:=Tryz.sizeOf3
 v3:=Tryz.zeroValue3
 t4:=Tryz.underlying4
 a4:=Tryz.isAgg4
 z4:=Tryz.sizeOf4
 v4:=Tryz.zeroValue4
 t9:=Tryz.underlying9
 a9:=Tryz.isAgg9
 z9:=Tryz.sizeOf9
 v9:=Tryz.zeroValue9
 t20:=Tryz.underlying20
 a20:=Tryz.isAgg20
 z20:=Tryz.sizeOf20
 v20:=Tryz.zeroValue20
 t22:=Tryz.underlying49
 a22:=Tryz.isAgg49
 z22:=Tryz.sizeOf49
 v22:=Tryz.zeroValue49
def Auj(n:Nat):(Builtin.zeroCells #[.int .i64 0] n).size=n:=by simp[Builtin.zeroCells]
def Bgc{n j:Nat}(h:j<n):(Builtin.zeroCells #[.int .i64 0] n)[j]?=some (.int .i64 0):=by
 simp[Builtin.zeroCells,h,Nat.mod_one]
def Aa2:List V->St->Option (V × St)
 | [.nils,.int .i64 n],σ=>if n=0 then some (.nils,σ) else if 0<n/\n<=1000000 then some (.sl σ.length 0 0 0 1 true,σ++[.row (List.replicate n.toNat (.int .i64 0)) 3 0 0]) else none
 | _,_=>none
def Bbb{G:List (Nat × List V)}:S6 Tryz.prog G 141 Aa2:=by
 refine⟨⟨Tryz.f141,_,by kernel_rfl,rfl,by decide⟩,fun args σ v σ' h us w γ N hl ha hI=>?_⟩;unfold Aa2 at h
 split at h
 .rename_i n
  match us,hl with
  | [u1,u2],_=>
  have ja:u1=.slice none 0 0:=Mj (Bf rfl (ha 0 AE));have jb:u2=.int .i64 n:=Et (Bf rfl (ha 1 AE));subst ja jb
  split at h
  .rename_i h0;cases h;subst h0;refine(Any8.slices_Grow_room Ap5 none 0 0 0 w AA AA AA AA).mono ?_;rintro e w' ⟨rfl,rfl⟩;exact⟨_,γ,rfl,Dd (.row .nils),hI,Ext.refl _ _,Below.refl _ _,fun _ _=>rfl⟩
  .split at h
   .rename_i hn hc;cases h;obtain⟨k,rfl⟩:∃ k:Nat,n=k:=⟨n.toNat,by omega⟩;rw[J0];have hk:((Tryz.prog.info? 3).bind fun i=>if i.size=1/\i.bytes=8 then i.zero.map Value.cells else none)=some #[.int .i64 0]:=by kernel_rfl
    cases hi:Tryz.prog.info? 3 with
    | none=>rw[hi]at hk;cases hk
    | some i0=>
    rw[hi,Cy]at hk
    split at hk
    rotate_left
    .cases hk
    rename_i qZ
    cases hz:i0.zero with
    | none=>rw[hz]at hk;cases hk
    | some z=>
    rw[hz]at hk;have jf:z.cells=#[.int .i64 0]:=Iu hk;refine(Any8.slices_Grow_grow Ap5 i0 z hi hz AA none 0 0 k [] w AA AA (by rw[qZ.2];omega) AA AE (fun _=>rfl) (fun a h=>by cases h)).mono ?_;rintro e w' ⟨rfl,rfl⟩;rw[jf];have qV:=grownCap_ge w (0+k) 0 (grow_ren.t 25);have qs:=grownCap_le_maxLen w (0+k) 0 (grow_ren.t 25) (by unfold maxLen;omega);generalize grownCap w (0+k) 0 (grow_ren.t 25)=cap at qV qs;obtain⟨d1,d2⟩:=hI.drew
    have qg:(([]:List Value).toArray++Builtin.zeroCells #[.int .i64 0] (0+k - 0)++Builtin.zeroCells #[.int .i64 0] (cap - (0+k))).size=cap:=by
     simp only[Array.size_append,Auj];simp;omega
    obtain⟨i1,i2⟩:=d1.newRow (([]:List Value).toArray++Builtin.zeroCells #[.int .i64 0] (0+k - 0)++Builtin.zeroCells #[.int .i64 0] (cap - (0+k))) 3 (List.replicate k (.int .i64 0)) (by rw[qg,Qo];omega) (fun j hj=>by
     rw[Qo]at hj;have e1:(List.replicate k (V.int .i64 0)).getD j .und=.int .i64 0:=by simp[hj]
     have e2:(([]:List Value).toArray++Builtin.zeroCells #[.int .i64 0] (0+k - 0)++Builtin.zeroCells #[.int .i64 0] (cap - (0+k))).getD j undef=.int .i64 0:=by
      rw[Array.getD_eq_getD_getElem?,Array.getElem?_append_left (by simp[Auj];omega),Array.getElem?_append_right AE];rw[show j - ([]:List Value).toArray.size=j from rfl,Bgc AA];rfl
     rw[e1,e2]
     exact .row .int)
    refine⟨_,_,rfl,Dd (Aew (blk:=w.heap.size) (m:=1) ?_ ?_ (Av _) qs),i1,d2.trans i2,?_,fun b hb=>Oi _ _ (by have:=hI.base;show b≠w.heap.size;omega)⟩
    .show(γ.O++[(w.heap.size,0)])[σ.length]?=_;rw[<-hI.len];simp
    .have:=Y7 w.drew (([]:List Value).toArray++Builtin.zeroCells #[.int .i64 0] (0+k - 0)++Builtin.zeroCells #[.int .i64 0] (cap - (0+k))) 3 (0,0);rw[qg]at this;rw[Yu];exact this
    .exact((Below.refl N w).drew).alloc hI.base _
   .cases h
 .cases h
