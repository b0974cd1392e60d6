/- The plain machine's forms, read off the program's own functions. -/
import Derived.Test.YthlbbjcbmojocacGreatDoorA5
import Derived.Test.YthlbbjcbmojocacGreatDoorRows
import Derived.DataReads
import Derived.Test.YthlbbjcbmojocacGreatDoorShelf
import Derived.Lib.UnsafeStr
import Derived.Lib.SlicesCompact
set_option linter.all false
namespace Go.Proofs.YthlbbjcbmojocacGreatDoor.KM
open Go
inductive TD where
 | i (k:IntKind) | s | b | it | f | sl (e:Nat) | pt (e:Nat) | ar (n e:Nat) | st (fs:List (Nat × Nat)) | mp (v:Nat)
structure TyR where
 d:TD
 z:List V
 n:Nat
 one:Bool
 by':Nat
 pl:Bool
section
variable (ty:Nat->TyR) (gl:Nat->V) (lt:Nat->Nat)
def Avc:Value->V
 | .bool b=>.bool b
 | .int k n=>.int k n
 | .string s=>.str s.data.toList
 | .pointer _=>.nilp
 | .slice _ _ _=>.nils
 | .nilFunc=>.nilf
 | .nilIface=>.nili
 | _=>.und
def Ai4:List Value->List V
 | []=>[]
 | v::l=>Avc v::Ai4 l
def Av7:Value->V
 | .agg cs=>.agg (Ai4 cs.toList)
 | .bool b=>.bool b
 | .int k n=>.int k n
 | .string s=>.str s.data.toList
 | .pointer _=>.nilp
 | .slice _ _ _=>.nils
 | .nilFunc=>.nilf
 | .nilIface=>.nili
 | _=>.und
def Dy:Operand->S
 | .tmp t=>.t t
 | .const v=>.k (Av7 v)
 | .func f=>.k (.fn f [] [])
 | .global g=>.k (gl g)
def Uf:List Operand->List S
 | []=>[]
 | x::l=>Dy gl x::Uf l
def Aey:Option Operand->Option S
 | none=>none
 | some x=>some (Dy gl x)
def Avd:TD->Nat->S->Nat × Nat × S
 | .st fs,i,s=>match fs[i]? with
  | some (o,t)=>(o,(ty t).n,s)
  | none=>(0,0,s)
 | .ar _ e,i,s=>(i*(ty e).n,(ty e).n,s)
 | _,_,s=>(0,0,s)
def Ai5(d:TD):List (Nat × Operand)->List (Nat × Nat × S)
 | []=>[]
 | (i,x)::l=>Avd ty d i (Dy gl x)::Ai5 d l
def Aj5:List (Nat × Operand)->List (Nat × S)
 | []=>[]
 | (i,x)::l=>(i,Dy gl x)::Aj5 l
def Av8:Nat->Bool->Nat->TyR->Nat->List (Nat × S)->AO
 | 0,true,_,y,n,ps=>.rows n y.z ps
 | 0,false,_,y,n,ps=>.rowf n y.z ps
 | 1,_,_,y,n,ps=>.rows n y.z ps
 | 2,_,e,y,n,ps=>.rowo e n y.z ps
 | _,_,_,y,n,ps=>.rowf n y.z ps
def Atn:TD->Nat->List (Nat × S)->AO
 | .sl e,n,ps=>Av8 (lt e) (ty e).pl e (ty e) n ps
 | _,_,_=>.mmk
def Ave:V->Nat
 | .bool _=>0
 | .str _=>2
 | _=>1
def Adk:List V->List Nat
 | []=>[]
 | x::l=>Ave x::Adk l
def Av9(z:List V):TD->Option EqK
 | .b=>some .bool
 | .sl _=>some .nilsl
 | .pt _=>some .nilpt
 | .f=>some .nilfn
 | .it=>some .nilif
 | .st _=>some (.flat (Adk z))
 | .ar _ _=>some (.flat (Adk z))
 | _=>none
def Awa:BinOp->Option EqK->S->S->AO
 | .eql,some k,x,y=>.eq k false x y
 | .neq,some k,x,y=>.eq k true x y
 | b,_,x,y=>.bin b x y
def Awb:TD->TD->S->AO
 | .i _,.i k,x=>.cvi k x
 | .s,.s,x=>.cvs x
 | .s,.sl e,x=>.stb e x
 | .sl _,.s,x=>.bts x
 | .sl _,.sl _,x=>.cvl x
 | _,_,x=>.mov x
def Awc:TD->S->Option S->Option S->Option S->AO
 | .s,x,l,h,_=>.slcs x l h
 | .sl e,x,l,h,m=>.slc (ty e).n x l h m
 | .ar n e,x,l,h,_=>.slca n (ty e).n x l h
 | _,x,_,_,_=>.mov x
def Ato:TD->TD
 | .pt e=>(ty e).d
 | .s=>.s
 | .sl e=>.sl e
 | .ar n e=>.ar n e
 | d=>d
def Awd:TD->Nat->S->AO
 | .st fs,i,x=>match fs[i]? with
  | some (o,_)=>.fad o x
  | none=>.mov x
 | _,_,x=>.mov x
def Awe:TD->Nat->S->AO
 | .st fs,i,x=>match fs[i]? with
  | some (o,t)=>.fld o (ty t).n (ty t).one x
  | none=>.mov x
 | _,_,x=>.mov x
def Awf:TD->S->S->AO
 | .sl e,x,i=>.iad (ty e).n x i
 | .ar n e,x,i=>.iar n (ty e).n x i
 | _,x,_=>.mov x
def Awg:TD->S->S->AO
 | .ar n e,x,i=>.ida n (ty e).n (ty e).one x i
 | .s,x,i=>.idx x i
 | _,x,_=>.mov x
def Avf:TD->S->S->AO
 | .mp e,x,i=>match (ty e).z with
  | [z]=>.mlk z x i
  | _=>.mmk
 | _,x,_=>.mov x
def rMk:TD->S->S->AO
 | .sl e,x,y=>.mk e (ty e).by' (ty e).z x y
 | _,x,_=>.mov x
def Awh:TD->S->AO
 | .ar n _,x=>.sap n x
 | _,x=>.mov x
def Awi:TD->S->AO
 | .s,x=>.lens x
 | .sl _,x=>.len x
 | _,x=>.mov x
def Awj:TD->TD->S->S->AO
 | .sl e,.s,x,y=>.apps e x y
 | .sl e,.sl _,x,y=>.app (ty e).by' ((ty e).n,e) x y
 | _,_,x,_=>.mov x
def Atp:Builtin->List S->List Nat->AO
 | .len,[x],[t]=>Awi (ty t).d x
 | .cap,[x],_=>.cap x
 | .append,[x,y],[t,u]=>Awj ty (ty t).d (ty u).d x y
 | .max,[x,y],_=>.mx x y
 | .min,[x,y],_=>.mn x y
 | _,_,_=>.mmk
def Avg:Callee->List Operand->List Nat->AO
 | .value (.func f),xs,_=>.call f (Uf gl xs)
 | .value (.tmp t),xs,_=>.callv (.t t) (Uf gl xs)
 | .builtin b,xs,ts=>Atp ty b (Uf gl xs) ts
 | _,_,_=>.mmk
def Awk:Go.Fn->List S->List S->AO
 | .func f,a,c=>.mkf f a c
 | _,_,_=>.mmk
def rOp:Op->AO
 | .move x=>.mov (Dy gl x)
 | .assign x=>.mov (Dy gl x)
 | .pick c a b=>.pick (Dy gl c) (Dy gl a) (Dy gl b)
 | .alloc t=>.new t (ty t).z
 | .box t x=>.box t (Dy gl x)
 | .build t ps=>.build (ty t).z (Ai5 ty gl (ty t).d ps.toList)
 | .buildSlice t n ps=>Atn ty lt (ty t).d n (Aj5 gl ps.toList)
 | .load t x=>.load (ty t).n (ty t).one (Dy gl x)
 | .store t x v=>.store (ty t).n (Dy gl x) (Dy gl v)
 | .nilCheck x=>.chk (Dy gl x)
 | .binOp b t x y _=>Awa b (Av9 (ty t).z (ty t).d) (Dy gl x) (Dy gl y)
 | .unOp u _ x=>.un u (Dy gl x)
 | .convert s d x=>Awb (ty s).d (ty d).d (Dy gl x)
 | .sliceToArrayPointer t x=>Awh (ty t).d (Dy gl x)
 | .makeFunc f a c=>Awk f (Uf gl a.toList) (Uf gl c.toList)
 | .makeMap _ _=>.mmk
 | .makeSlice t x y=>rMk ty (ty t).d (Dy gl x) (Dy gl y)
 | .slice t x l h m=>Awc ty (Ato ty (ty t).d) (Dy gl x) (Aey gl l) (Aey gl h) (Aey gl m)
 | .fieldAddr t x i=>Awd (ty t).d i (Dy gl x)
 | .field t x i=>Awe ty (ty t).d i (Dy gl x)
 | .indexAddr t x i=>Awf ty (ty t).d (Dy gl x) (Dy gl i)
 | .index t x i=>Awg ty (ty t).d (Dy gl x) (Dy gl i)
 | .lookup t x i _=>Avf ty (ty t).d (Dy gl x) (Dy gl i)
 | .mapUpdate _ x k v=>.mup (Dy gl x) (Dy gl k) (Dy gl v)
 | .extract x i=>.ext i (Dy gl x)
 | .call c=>Avg ty gl c.callee c.args.toList c.argTypes.toList
 | _=>.mmk
/-! sets of slots -/
def Dm:Operand->Nat
 | .tmp t=>1 <<< t
 | .const _=>0
 | .func _=>0
 | .global _=>0
def Zy:List Operand->Nat
 | []=>0
 | x::l=>Dm x ||| Zy l
def Aez:Option Operand->Nat
 | none=>0
 | some x=>Dm x
def Adl:List (Nat × Operand)->Nat
 | []=>0
 | (_,x)::l=>Dm x ||| Adl l
def Awl:Callee->Nat
 | .value f=>Dm f
 | .invoke r _=>Dm r
 | .builtin _=>0
def uOp:Op->Nat
 | .move x=>Dm x
 | .assign x=>Dm x
 | .pick c a b=>Dm c ||| Dm a ||| Dm b
 | .alloc _=>0
 | .box _ x=>Dm x
 | .build _ ps=>Adl ps.toList
 | .buildSlice _ _ ps=>Adl ps.toList
 | .load _ x=>Dm x
 | .store _ x v=>Dm x ||| Dm v
 | .nilCheck x=>Dm x
 | .binOp _ _ x y _=>Dm x ||| Dm y
 | .unOp _ _ x=>Dm x
 | .convert _ _ x=>Dm x
 | .sliceToArrayPointer _ x=>Dm x
 | .makeFunc _ a c=>Zy a.toList ||| Zy c.toList
 | .makeMap _ _=>0
 | .makeSlice _ x y=>Dm x ||| Dm y
 | .slice _ x l h m=>Dm x ||| Aez l ||| Aez h ||| Aez m
 | .fieldAddr _ x _=>Dm x
 | .field _ x _=>Dm x
 | .indexAddr _ x i=>Dm x ||| Dm i
 | .index _ x i=>Dm x ||| Dm i
 | .lookup _ x i _=>Dm x ||| Dm i
 | .mapUpdate _ x k v=>Dm x ||| Dm k ||| Dm v
 | .extract x _=>Dm x
 | .call c=>Awl c.callee ||| Zy c.args.toList
 | _=>0
def Aaa:Nat->Nat->Nat->List Nat
 | 0,_,_=>[]
 | f+1,i,m=>match m==0 with
  | true=>[]
  | false=>match m % 256==0 with
   | true=>Aaa f (i+8) (m / 256)
   | false=>match m % 2==0 with
    | true=>Aaa f (i+1) (m / 2)
    | false=>i::Aaa f (i+1) (m / 2)
def bits(m:Nat):List Nat:=Aaa 800 0 m
def Ae0(a b:Nat):Nat:=a ^^^ (a &&& b)
def Ae1(all:List Oper):Option (Nat × Bool)->Option (Nat × Bool)
 | none=>none
 | some (j,w)=>match all[j]? with
  | some r=>match r.dst with
   | some d=>some (d,w)
   | none=>none
  | none=>none
def Aj6:Option (Nat × Bool)->Nat
 | none=>0
 | some (t,_)=>1 <<< t
def Aj7:Option Nat->Nat
 | none=>0
 | some t=>1 <<< t
def rAI:Option Nat->Option (Nat × Bool)->AO->AI
 | some d,none,a=>o d a
 | none,none,a=>on a
 | some d,some (t,w),a=>og d a t w
 | none,some (t,w),a=>oh a t w
def Ald(all:List Oper):List Oper->List AI
 | []=>[]
 | r::l=>rAI r.dst (Ae1 all r.guard) (rOp ty gl lt r.op)::Ald all l
def Ale(all:List Oper):List Oper->Nat
 | []=>0
 | r::l=>uOp r.op ||| Aj6 (Ae1 all r.guard) ||| Aj7 r.dst ||| Ale all l
def Ae2(all:List Oper)(qb:Nat):List Oper->Nat
 | []=>qb
 | r::l=>Ae0 (Ae2 all qb l) (Aj7 r.dst) ||| uOp r.op ||| Aj6 (Ae1 all r.guard)
def Avh:Ground->Nat->Nat
 | .textOnly _,_=>0
 | .gcOnly _,_=>0
 | .data,n=>1 <<< n
 | .chain,n=>1 <<< n
 | .guard,n=>1 <<< n
 | .phase,n=>1 <<< n
def Ai6:List Edge->Nat
 | []=>0
 | e::l=>Avh e.ground e.on ||| Ai6 l
def Aj8:List Oper->List (List Nat)
 | []=>[]
 | r::l=>bits (Ai6 r.after.toList)::Aj8 l
def Awm:Bool->List Nat->List Oper->List AI->AC
 | true,kill,os,l=>.drw kill (Aj8 os) l
 | false,kill,_,l=>.reg kill l
def Ae3:List (Nat × Nat)->Nat->Nat
 | [],_=>0
 | (i,m)::l,j=>match i==j with
  | true=>m
  | false=>Ae3 l j
def Nt:Code->Nat
 | .seq a b=>Nt a+Nt b
 | .cond _ a b=>Nt a+Nt b
 | .block _ c=>Nt c
 | .scope c=>Nt c
 | .loop c=>Nt c+1
 | _=>0
def Avi:Op->Bool
 | .makeInterface _ _=>true
 | .panic _=>true
 | _=>false
def Adm:List Oper->Bool
 | []=>false
 | r::l=>match Avi r.op with
  | true=>true
  | false=>Adm l
def My(rs:Nat):Code->List (Nat × Nat)->Nat->Nat
 | .skip,_,qb=>qb
 | .label _,_,qb=>qb
 | .ret,_,_=>rs
 | .exit i,ex,_=>Ae3 ex i
 | .seq a b,ex,qb=>My rs a ex (My rs b ex qb)
 | .cond c a b,ex,qb=>Dm c ||| My rs a ex qb ||| My rs b ex qb
 | .block i c,ex,qb=>My rs c ((i,qb)::ex) qb
 | .scope c,ex,qb=>My rs c ex qb
 | .loop c,ex,_=>
  let h1:=My rs c ex 0
  let h2:=h1 ||| My rs c ex h1
  let h3:=h2 ||| My rs c ex h2
  h3 ||| My rs c ex h3
 | .region _ ops _,_,qb=>match Adm ops.toList with
  | true=>0
  | false=>Ae2 ops.toList qb ops.toList
 | _,_,_=>0
def ixL:List AC->Nat->AC
 | [],_=>.skip
 | c::l,i=>match i==0 with
  | true=>c
  | false=>ixL l (i - 1)
def Py(ls:List AC)(rs:Nat):Code->List (Nat × Nat)->Nat->Nat->AC × Nat × List AC
 | .skip,_,_,qb=>(.skip,qb,[])
 | .label _,_,_,qb=>(.skip,qb,[])
 | .ret,_,_,_=>(.ret,rs,[])
 | .exit i,ex,_,_=>(.exit i,Ae3 ex i,[])
 | .seq a b,ex,n,qb=>
  let y:=Py ls rs b ex (n+Nt a) qb
  let x:=Py ls rs a ex n y.2.1
  (.seq x.1 y.1,x.2.1,x.2.2++y.2.2)
 | .cond c a b,ex,n,qb=>
  let x:=Py ls rs a ex n qb
  let y:=Py ls rs b ex (n+Nt a) qb
  (.cond (Dy gl c) (bits (Ae0 (Dm c) (x.2.1 ||| y.2.1))) x.1 y.1,Dm c ||| x.2.1 ||| y.2.1,x.2.2++y.2.2)
 | .block i c,ex,n,qb=>
  let x:=Py ls rs c ((i,qb)::ex) n qb
  (.blk i x.1,x.2.1,x.2.2)
 | .scope c,ex,n,qb=>
  let x:=Py ls rs c ex n qb
  (.blk 1000000 x.1,x.2.1,x.2.2)
 | .loop c,ex,n,qb=>
  let h:=My rs (.loop c) ex qb
  let x:=Py ls rs c ex n h
  (.loop (bits h) (ixL ls (n+Nt c)),h,x.2.2++[x.1])
 | .region _ ops d,_,_,qb=>match Adm ops.toList with
  | true=>(.cond (.k .und) [] .skip .skip,0,[])
  | false=>(Awm d (bits (Ae0 (Ale ops.toList ops.toList) qb)) ops.toList (Ald ty gl lt ops.toList ops.toList),Ae2 ops.toList qb ops.toList,[])
 | _,_,_,_=>(.skip,0,[])
def Ae4:List ResultVar->List AR
 | []=>[]
 | .tmp t::l=>.tmp t::Ae4 l
 | .cell t y::l=>.cell t (ty y).n (ty y).one::Ae4 l
def Aab:List ResultVar->Nat
 | []=>0
 | .tmp t::l=>1 <<< t ||| Aab l
 | .cell t _::l=>1 <<< t ||| Aab l
def Aj9(ls:List AC)(rs:Nat):Option Code->AC × Nat × List AC
 | some c=>Py ty gl lt ls rs c [] 0 rs
 | none=>(.skip,0,[])
def rF(p:Nat)(thr:Bool)(fn:Func)(ls:List AC):AF:=⟨p,Ae4 ty fn.results.toList,thr,(Aj9 ty gl lt ls (Aab fn.results.toList) fn.body).1,none⟩
def Awn(fn:Func)(ls:List AC):AC:=ixL (Aj9 ty gl lt ls (Aab fn.results.toList) fn.body).2.2 ls.length
end
attribute [go_sem] Avc Ai4 Av7 Dy Uf Aey Avd Ai5 Aj5 Av8 Atn Ave Adk Av9 Awa Awb Awc Ato Awd Awe Awf Awg Avf rMk Awh Awi Awj Atp Avg Awk rOp Dm Zy Aez Adl Awl uOp Aaa bits Ae0 Ae1 Aj6 Aj7 rAI Ald Ale Ae2 Avh Ai6 Aj8 Awm Ae3 Avi Adm Nt My ixL Py Ae4 Aab Aj9 rF Awn Nat.reduceShiftLeft Nat.reduceOr Nat.reduceAnd Nat.reduceXor Nat.reduceBEq Nat.reduceMod Nat.reduceDiv Nat.reduceSub
def Hr(w:World):E0:=fun b=>match w.heap[b]? with
 | some (.cells c _ _)=>some c.size
 | _=>none
def Axj{w:World}{b o:Nat}{v:Value}(h:w.cell? ⟨b,o,none⟩=some v):∃ k,Hr w b=some k/\o<k:=by
 unfold World.cell? at h;unfold Hr
 split at h
 .rename_i c e fz hh;simp only[Option.isSome_none,F6,if_false]at h;rw[hh];exact⟨c.size,rfl,(Array.getElem?_eq_some_iff.1 h).1⟩
 .cases h
inductive HasT (P:Program):TypeId->List V->Prop
 | bool {t:TypeId} {b:Bool}:P.underlying t=some .bool->HasT P t [.bool b]
 | int {t:TypeId} {k:IntKind} {n:Int}:P.underlying t=some (.int k)->(Lit.int k n).wf=true->HasT P t [.int k n]
 | str {t:TypeId} {s:ByteArray}:P.underlying t=some .string->s.size<=maxLen->HasT P t [.str s.data.toList]
 | nils {t e:TypeId}:P.underlying t=some (.slice e)->HasT P t [.nils]
 | lst {t e:TypeId} {xs:List (List V)}:P.underlying t=some (.slice e)->xs.length<=maxLen->(∀ i,i<xs.length->HasT P e (xs.getD i []))->HasT P t [.lst 0 xs]
 | struct {t:TypeId} {fs:Array Field} (qa:List (List V)):P.underlying t=some (.struct fs)->qa.length=fs.size->(∀ i f,fs[i]?=some f->HasT P f.type (qa.getD i []))->HasT P t qa.flatten
 | array {t e:TypeId} {n:Nat} (qa:List (List V)):P.underlying t=some (.array n e)->qa.length=n->(∀ i,i<n->HasT P e (qa.getD i []))->HasT P t qa.flatten
mutual
def V.bulk:V->Nat
 | .str l=>l.length+1
 | .lst _ xs=>C0 xs+1
 | _=>1
def C0:List (List V)->Nat
 | []=>0
 | r::rs=>C7 r+C0 rs
def C7:List V->Nat
 | []=>0
 | p::ps=>p.bulk+C7 ps
end
def Af6(a b:List V):C7 (a++b)=C7 a+C7 b:=by
 induction a with
 | nil=>simp[C7]
 | cons x a ih=>simp only[Hz,C7,ih];omega
def Pu(P:Program):List Field->Nat->Nat->Bool
 | [],s,e=>s==e
 | f::fs,s,e=>f.offset==s&&Pu P fs (s+P.cellsOf f.type) e
def A6v(P:Program)(ts:List TypeId):Bool:=ts.all fun t=>
 match P.underlying t with
 | some .bool | some (.int _) | some .string=>true
 | some (.slice e)=>ts.contains e&&decide (0<P.cellsOf e)
 | some (.struct fs)=>fs.toList.all (fun f=>ts.contains f.type)&&Pu P fs.toList 0 (P.cellsOf t)
 | some (.array n e)=>ts.contains e&&P.cellsOf t==n*P.cellsOf e
 | _=>false
def Anx{α β:Type}{f:α->Option β}:∀ {l:List α} {r:List β},l.mapM f=some r->r.length=l.length/\∀ i (hi:i<l.length),f l[i]=r[i]?
 | [],r,h=>by
  simp at h;subst h;exact⟨rfl,fun i hi=>absurd hi (by simp)⟩
 | a::l,r,h=>by
  rw[H0]at h
  cases ha:f a with
  | none=>simp[ha]at h
  | some b=>
   cases hl:l.mapM f with
   | none=>simp[ha,hl]at h
   | some r'=>
    simp[ha,hl]at h;subst h;obtain⟨h1,h2⟩:=Anx hl;refine⟨by simp[h1],fun i hi=>?_⟩
    cases i with
    | zero=>simpa using ha
    | succ i=>
     have:=h2 i (by simpa using hi);simpa using this
structure RowAt {H:Type} (P:Program) (w:World) (t:TypeId) (cs:List Value) (d:DataW H) (qc:List V):Prop where
 len:qc.length=cs.length
 rep:∀ j,j<cs.length->RepR (Hr w) w (qc.getD j .und) (cs.getD j undef)
 typ:HasT P t qc
 bulk:C7 qc<=Rows.uptoBulk d
def Amc{H:Type}:∀ (xs:List (List V)) (ds:List (DataW H)),xs.length=ds.length->(∀ i,i<xs.length->∀ d,ds[i]?=some d->C7 (xs.getD i [])<=Rows.uptoBulk d)->C0 xs<=Rows.uptoBulkAll ds
 | [],ds,_,_=>by simp[C0]
 | x::xs,[],h,_=>by simp at h
 | x::xs,d::ds,h,hb=>by
  have h0:=hb 0 (by simp) d rfl;have:=Amc xs ds (by simpa using h) (fun i hi d' hd=>by simpa using hb (i+1) (by simpa using hi) d' (by simpa using hd));simp only[C0,Rows.uptoBulkAll];simp at h0;omega
def Agj{α:Type}(a b:List α)(i:Nat)(d:α)(h:i<a.length):(a++b).getD i d=a.getD i d:=by
 simp only[Av,B6 h]
def Agk{α:Type}(a b:List α)(i:Nat)(d:α)(h:a.length<=i):(a++b).getD i d=b.getD (i - a.length) d:=by
 simp only[Av,Co h]
def Arw{Q:Nat->List V->Prop}:∀ (n:Nat),(∀ i,i<n->∃ r,Q i r)->∃ xs:List (List V),xs.length=n/\∀ i,i<n->Q i (xs.getD i [])
 | 0,_=>⟨[],rfl,fun i hi=>absurd hi (by omega)⟩
 | n+1,h=>by
  obtain⟨xs,hl,hx⟩:=Arw n (fun i hi=>h i (by omega));obtain⟨r,hr⟩:=h n (by omega);refine⟨xs++[r],by simp[hl],fun i hi=>?_⟩;by_cases ja:i<n
  .have:=hx i ja
   rwa [Agj _ _ _ _ (by omega)]
  .obtain rfl:i=n:=by omega
   rw[Agk _ _ _ _ (by omega),hl];simpa using hr
def Amt{H:Type}{P:Program}{w:World}{cs:List Value}{g:Field->Option (DataW H × List MemPlace)}:
  ∀ (fl:List Field) (s e:Nat) (xs:List (DataW H × List MemPlace)),Pu P fl s e=true->fl.mapM g=some xs->e<=cs.length ->
   (∀ f∈fl,∀ x,g f=some x->∃ qc,RowAt P w f.type ((cs.drop f.offset).take (P.cellsOf f.type)) x.1 qc) ->
   ∃ qa:List (List V),qa.length=fl.length/\s<=e/\qa.flatten.length=e - s/\(∀ i f,fl[i]?=some f->HasT P f.type (qa.getD i [])) /\
    (∀ j,j<e - s->RepR (Hr w) w (qa.flatten.getD j .und) (cs.getD (s+j) undef))/\C7 qa.flatten<=Rows.uptoBulkAll (xs.map (·.1))
 | [],s,e,xs,hc,hm,_,_=>by
  simp[Pu]at hc;simp at hm;subst hc hm;exact⟨[],rfl,Ai _,by simp,fun i f h=>by simp at h,fun j hj=>by omega,by simp[C7]⟩
 | f::fl,s,e,xs,hc,hm,he,hg=>by
  simp only[Pu,Af,beq_iff_eq]at hc;rw[H0]at hm
  cases hf:g f with
  | none=>simp[hf]at hm
  | some x=>
   cases hl:fl.mapM g with
   | none=>simp[hf,hl]at hm
   | some r=>
    simp[hf,hl]at hm;subst hm;obtain⟨qa,h1,h2,h3,h4,h5,h6⟩:=Amt fl _ e r hc.2 hl he (fun f' qW=>hg f' (C4 _ qW));obtain⟨qc,hp⟩:=hg f (C5) x hf
    have qf:qc.length=P.cellsOf f.type:=by
     rw[hp.len,Eg,D1,hc.1];omega
    refine⟨qc::qa,by simp[h1],by omega,by simp only[Dv,Al,h3,qf];omega,fun i f' hi=>?_,fun j hj=>?_,?_⟩
    .cases i with
     | zero=>simp at hi;subst hi;simpa using hp.typ
     | succ i=>simpa using h4 i f' (by simpa using hi)
    .rw[Dv];by_cases qt:j<P.cellsOf f.type
     .rw[Agj _ _ _ _ (by omega)];have:=hp.rep j (by rw[<-hp.len];omega)
      have e2:((cs.drop f.offset).take (P.cellsOf f.type)).getD j undef=cs.getD (s+j) undef:=by
       simp only[Av,F5,Hx,hc.1];rw[if_pos qt]
      rwa [e2]at this
     .rw[Agk _ _ _ _ (by omega),qf];have:=h5 (j - P.cellsOf f.type) (by omega)
      rwa [show s+P.cellsOf f.type+(j - P.cellsOf f.type)=s+j by omega]at this
    .rw[Dv,Af6,Bb];simp only[Rows.uptoBulkAll];have:=hp.bulk;omega
def Anz{H:Type}{P:Program}{w:World}{cs:List Value}{e:TypeId}{g:Nat->Option (DataW H × List MemPlace)}(hg:∀ i x,g i=some x->∃ qc,RowAt P w e ((cs.drop (i*P.cellsOf e)).take (P.cellsOf e)) x.1 qc):
  ∀ (n s:Nat) (xs:List (DataW H × List MemPlace)),(List.range' s n).mapM g=some xs->(s+n)*P.cellsOf e<=cs.length ->
   ∃ qa:List (List V),qa.length=n/\qa.flatten.length=n*P.cellsOf e/\(∀ i,i<n->HasT P e (qa.getD i [])) /\
    (∀ j,j<n*P.cellsOf e->RepR (Hr w) w (qa.flatten.getD j .und) (cs.getD (s*P.cellsOf e+j) undef))/\C7 qa.flatten<=Rows.uptoBulkAll (xs.map (·.1))
 | 0,s,xs,hm,_=>by
  simp at hm;subst hm;exact⟨[],rfl,by simp,fun i hi=>by omega,fun j hj=>by omega,by simp[C7]⟩
 | n+1,s,xs,hm,hl=>by
  rw[Aa5,H0]at hm
  cases hf:g s with
  | none=>simp[hf]at hm
  | some x=>
   cases hr:(List.range' (s+1) n).mapM g with
   | none=>simp[hf,hr]at hm
   | some r=>
    simp[hf,hr]at hm;subst hm;have el:(s+(n+1))*P.cellsOf e=s*P.cellsOf e+P.cellsOf e+n*P.cellsOf e:=by rw[Nb,Ep];omega
    have es:(s+1)*P.cellsOf e=s*P.cellsOf e+P.cellsOf e:=Ep ..;obtain⟨qa,h1,h3,h4,h5,h6⟩:=Anz hg n (s+1) r hr (by rw[show s+1+n=s+(n+1) by omega];exact hl);obtain⟨qc,hp⟩:=hg s x hf
    have qf:qc.length=P.cellsOf e:=by
     rw[hp.len,Eg,D1];omega
    have en:(n+1)*P.cellsOf e=n*P.cellsOf e+P.cellsOf e:=Ep ..;refine⟨qc::qa,by simp[h1],by simp only[Dv,Al,h3,qf];omega,fun i hi=>?_,fun j hj=>?_,?_⟩
    .cases i with
     | zero=>simpa using hp.typ
     | succ i=>simpa using h4 i (by omega)
    .rw[Dv];by_cases qt:j<P.cellsOf e
     .rw[Agj _ _ _ _ (by omega)];have:=hp.rep j (by rw[<-hp.len];omega)
      have e2:((cs.drop (s*P.cellsOf e)).take (P.cellsOf e)).getD j undef=cs.getD (s*P.cellsOf e+j) undef:=by
       simp only[Av,F5,Hx];rw[if_pos qt]
      rwa [e2]at this
     .rw[Agk _ _ _ _ (by omega),qf];have:=h5 (j - P.cellsOf e) (by omega)
      rwa [es,show s*P.cellsOf e+P.cellsOf e+(j - P.cellsOf e)=s*P.cellsOf e+j by omega]at this
    .rw[Dv,Af6,Bb];simp only[Rows.uptoBulkAll];have:=hp.bulk;omega
def A6w(a:Addr)(n m:Nat)(h:a.spot=none):(a.add n).add m=⟨a.block,a.off+n+m,none⟩:=by
 unfold Addr.add
 split<;>split<;>simp_all<;>(cases a;simp_all)
def Vr{H:Type}(qr:TypeId × Value->H)(P:Program)(w:World)(qe:Nat->Bool)(qg:Bool)(ts:List TypeId)(qv:A6v P ts=true):
  ∀ (fuel:Nat) (t:TypeId) (cs:List Value) (d:DataW H) (ps:List MemPlace),t∈ts->DataW.trod qr P w 0 qe qg fuel t cs=some (d,ps)->∃ qc,RowAt P w t cs d qc
 | 0,_,_,_,_,_,h=>by simp[DataW.trod]at h
 | fuel+1,t,cs,d,ps,ht,h=>by
  have hp:=Bp.1 qv t ht;simp only[DataW.trod]at h
  split at h
  .rename_i b hu;simp at h;obtain⟨rfl,_⟩:=h
   exact⟨[.bool b],rfl,(fun j hj=>by
    obtain rfl:j=0:=by simpa using hj
    exact .bool),.bool hu,by simp[C7,V.bulk,Rows.uptoBulk]⟩
  .rename_i k k' n hu
   split at h
   .rename_i hk;simp at h;obtain⟨rfl,_⟩:=h;obtain⟨rfl,jg⟩:=hk
    exact⟨[.int k' n],rfl,(fun j hj=>by
    obtain rfl:j=0:=by simpa using hj
    exact .int),.int hu jg,by simp[C7,V.bulk,Rows.uptoBulk]⟩
   .cases h
  .rename_i hu;rw[hu]at hp;cases hp
  .rename_i s hu
   split at h
   .rename_i hs;simp at h;obtain⟨rfl,_⟩:=h;have qj:s.data.toList.length=s.size:=by rw[Array.length_toList];rfl
    exact⟨[.str s.data.toList],rfl,(fun j hj=>by
     obtain rfl:j=0:=by simpa using hj
     have hh:RepR (Hr w) w (.str s.data.toList) (.string ⟨s.data.toList.toArray⟩):=.str (by omega)
     simpa using hh),.str hu hs,by simp[C7,V.bulk,Rows.uptoBulk]⟩
   .cases h
  .rename_i hu;rw[hu]at hp;cases hp
  .rename_i hu;rw[hu]at hp;cases hp
  .rename_i e hu;simp at h;obtain⟨rfl,_⟩:=h
   exact⟨[.nils],rfl,(fun j hj=>by
    obtain rfl:j=0:=by simpa using hj
    exact .nils),.nils hu,by simp[C7,V.bulk,Rows.uptoBulk]⟩
  .rename_i e a len cap hu;rw[hu]at hp;simp only[Af,decide_eq_true_eq,Aax]at hp
   split at h
   .rename_i hc;obtain⟨_,jp,qV⟩:=hc
    cases hm:(List.range len).mapM (fun i=>(w.cells? 0 (a.add (i*P.cellsOf e)) (P.cellsOf e)).bind (DataW.trod qr P w 0 qe qg fuel e)) with
    | none=>simp[hm]at h
    | some elems=>
     simp only[hm,Db,Bu]at h;obtain⟨jj,_,h⟩:=h;simp at h;obtain⟨rfl,_⟩:=h;obtain⟨hl,qJ⟩:=Anx hm;simp only[List.length_range]at hl qJ
     have ji:∀ i,i<len->∃ r,(∃ cs' x,(∀ j,j<P.cellsOf e->w.cell? ((a.add (i*P.cellsOf e)).add j)=some (cs'.getD j undef))/\elems[i]?=some x/\cs'.length=P.cellsOf e/\RowAt P w e cs' x.1 r):=by
      intro i hi;have h1:=qJ i (by simpa using hi);simp only[Pb]at h1;have qq:i<elems.length:=by omega
      cases qi:w.cells? 0 (a.add (i*P.cellsOf e)) (P.cellsOf e) with
      | none=>rw[qi]at h1;simp[qq]at h1
      | some cs'=>
       obtain⟨_,qh,qT⟩:=World.cells?_some qi;rw[qi,Db,Bc qq]at h1;obtain⟨r,hr⟩:=Vr qr P w qe qg ts qv fuel e cs' _ _ hp.1 h1;refine⟨r,cs',elems[i],fun j hj=>?_,Bc qq,qh,hr⟩;rw[qT j hj];simp[qh,hj]
     obtain⟨xs,jh,hx⟩:=Arw len ji
     have qN:0<len->a.spot=none:=fun h0=>by
      obtain⟨cs',x,qd,_⟩:=hx 0 h0;have qQ:=qd 0 hp.2;have:=World.cell?_spot qQ;simpa[Addr.add] using this
     have qd:∀ i j,i<len->j<P.cellsOf e->∃ v,w.cell? ⟨a.block,a.off+i*P.cellsOf e+j,none⟩=some v/\RepR (Hr w) w ((xs.getD i []).getD j .und) v:=by
      intro i j hi hj;obtain⟨cs',x,hc,_,qh,hr⟩:=hx i hi;have h1:=hc j hj;rw[A6w _ _ _ (qN (by omega))]at h1;exact⟨_,h1,hr.rep j (by omega)⟩
     refine⟨[.lst 0 xs],rfl,fun j hj=>?_,.lst hu (by omega) (fun i hi=>?_),?_⟩
     .obtain rfl:j=0:=by simpa using hj
      show RepR (Hr w) w (.lst 0 xs) (.slice (some a) len cap);rw[<-jh];refine .lst (m:=P.cellsOf e) (fun i j=>(w.cell? ⟨a.block,a.off+i*P.cellsOf e+j,none⟩).getD undef) (fun h=>by omega) (by omega) qV (fun h0=>⟨qN (by omega),?_⟩) (fun i hi=>?_) (fun i j hi hj=>?_) (fun i j hi hj=>?_)
      .obtain⟨v,hv,_⟩:=qd (xs.length - 1) (P.cellsOf e - 1) (by omega) (by omega);obtain⟨k,hk,qq⟩:=Axj hv;refine⟨k,hk,?_⟩
       have:(xs.length - 1)*P.cellsOf e+P.cellsOf e=xs.length*P.cellsOf e:=by
        rw[<-Ep];congr 1;omega
       have:=hp.2;omega
      .obtain⟨cs',x,_,_,qh,hr⟩:=hx i (by omega);rw[hr.len,qh]
      .obtain⟨v,hv,_⟩:=qd i j (by omega) hj;rw[hv];rfl
      .obtain⟨v,hv,hr⟩:=qd i j (by omega) hj;rw[hv];exact hr
     .obtain⟨_,_,_,_,_,hr⟩:=hx i (by omega);exact hr.typ
     .simp only[C7,V.bulk,Rows.uptoBulk]
      have:=Amc xs (elems.map (·.1)) (by simp;omega) (fun i hi d' hd=>by
       obtain⟨_,x,_,he,_,hr⟩:=hx i (by omega);simp[he]at hd;subst hd
       exact hr.bulk)
      omega
   .cases h
  .rename_i fs hu;rw[hu]at hp;simp only[Af,Bp,Aax]at hp
   split at h
   .rename_i qh;simp only[Bu]at h;obtain⟨xs,hm,h⟩:=h;simp at h;obtain⟨rfl,_⟩:=h;obtain⟨qa,h1,h2,h3,h4,h5,h6⟩:=Amt (P:=P) (w:=w) (cs:=_) fs.toList 0 _ xs hp.2 hm (by omega) (fun f hf x hx=>Vr qr P w qe qg ts qv fuel f.type _ x.1 x.2 (hp.1 f hf) hx);refine⟨qa.flatten,by omega,fun j hj=>by simpa using h5 j (by omega),.struct qa hu (by simpa using h1) (fun i f hf=>h4 i f (by simpa using hf)),?_⟩;simp only[Rows.uptoBulk];omega
   .cases h
  .rename_i n e hu;rw[hu]at hp;simp only[Af,beq_iff_eq,Aax]at hp
   split at h
   .rename_i qh;simp only[Bu]at h;obtain⟨xs,hm,h⟩:=h;simp at h;obtain⟨rfl,_⟩:=h;rw[List.range_eq_range']at hm;obtain⟨qa,h1,h3,h4,h5,h6⟩:=Anz (P:=P) (w:=w) (e:=e) (cs:=_) (fun i x hx=>Vr qr P w qe qg ts qv fuel e _ x.1 x.2 hp.1 hx) n 0 xs hm (by rw[qh,hp.2];simp);refine⟨qa.flatten,by rw[h3,qh,hp.2],fun j hj=>by simpa using h5 j (by rw[<-hp.2,<-qh];exact hj),.array qa hu h1 h4,?_⟩;simp only[Rows.uptoBulk];omega
   .cases h
  all_goals first
   | (rename_i hu;rw[hu]at hp;cases hp)
   | cases h
section
open Go.RowKit
variable {P:Program} {G:List (Nat × List V)} {T:Nat->Option AF} {pr:Nat->Option (List V->Option V)}
def Ae5:V->Bool
 | .bool _ | .int _ _ | .str _=>true
 | _=>false
def Azu{κ:E0}{w:World}{v:V}{u:Value}(h:Nk v u=true)(hf:Ae5 v=true):RepR κ w v u:=by
 have h':RepC ⟨κ,[]⟩ w v u:=Abk h
 cases h' with
 | row h=>exact h
 | _=>cases hf
def Al6:∀ {vs:List V} {us:List Value},H5 vs us=true->vs.length=us.length/\∀ j,j<vs.length->Nk (vs.getD j .und) (us.getD j undef)=true
 | [],[],_=>⟨rfl,fun j hj=>absurd hj (by simp)⟩
 | v::vs,u::us,h=>by
  simp only[H5,Af]at h;obtain⟨h1,h2⟩:=Al6 h.2;refine⟨by simp[h1],fun j hj=>?_⟩
  cases j with
  | zero=>exact h.1
  | succ j=>simpa using h2 j (by simpa using hj)
def Wq(v:V)(u:Value):Prop:=(Nk v u=true/\Ae5 v=true)\/(v=.ifc/\∃ t p,u=.iface t p)
def Azv{κ:E0}{w:World}{v:V}{u:Value}(h:Wq v u):RepR κ w v u:=by
 rcases h with⟨h1,h2⟩ | ⟨rfl,t,p,rfl⟩
 .exact Azu h1 h2
 .exact .ifc
def Axr{r:List V}{us:List Value}(h:H5 r us=true)(hf:r.all Ae5=true):r.length=us.length/\∀ j,j<r.length->Wq (r.getD j .und) (us.getD j undef):=by
 obtain⟨h1,h2⟩:=Al6 h;exact⟨h1,fun j hj=>.inl ⟨h2 j hj,Bp.1 hf _ (by rw[Av,Bc hj];exact Fy hj)⟩⟩
def Alf(G:List (Nat × List V))(w:World):Prop:=∀ g r,(g,r)∈G->∃ us e fz,w.heap[g]?=some (.cells us e fz)/\r.length=us.toList.length/\∀ j,j<r.length->Wq (r.getD j .und) (us.toList.getD j undef)
def Bjd{w:World}(h:Alf G w):Inv G w.heap.size ⟨Hr w,[]⟩ [] w where
 base:=Ai _
 len:=rfl
 nd:=U3
 low:=fun i p h=>by simp at h
 obj:=fun i ob p h=>by simp at h
 dom:=fun b k hk=>by
  have qD:Hr w b=some k:=hk;unfold Hr at qD
  split at qD
  .rename_i hh;exact(Array.getElem?_eq_some_iff.1 hh).1
  .cases qD
 glob:=fun g r hg=>by
  obtain⟨us,e,fz,hh,hl,hj⟩:=h g r hg;have hk:Hr w g=some us.size:=by unfold Hr;rw[hh]
  have:=RepC.imm (γ:=⟨Hr w,[]⟩) (w:=w) (r:=r) (off:=0) (b:=g) (o:=0) (k:=us.size) (fun j=>us.toList.getD j undef) hk (by simpa using Agd hl) (fun j qL=>by
    have qq:j<us.size:=by simp at hl;omega
    simp[World.cell?,hh,Av,qq]) (fun j qL=>Azv (hj j qL))
  exact this
 gsz:=fun g r hg=>by
  obtain⟨us,e,fz,hh,hl,hj⟩:=h g r hg;exact⟨(Array.getElem?_eq_some_iff.1 hh).1,by simp[Eb,hh];simpa using hl.symm⟩
def Azw{σ:St}{v:V}{b:Bool}(h:Ex σ v=some (.bool b)):v=.bool b:=by
 unfold Ex K3 at h
 split at h
 .simp only[Bu]at h;obtain⟨_,_,h⟩:=h;cases h
 .unfold Gj at h
  split at h
  .cases h
  .simp only[Bu]at h;obtain⟨_,_,h⟩:=h;cases h
  .unfold Fa at h
   split at h
   .cases h;rfl
   .split at h
    .split at h
     .split at h
      .split at h
       .simp only[Bu]at h;obtain⟨_,_,h⟩:=h;cases h
       .cases h
      .cases h
     .cases h
    .cases h
def Azx(hT:∀ f F,T f=some F->F.spec=none->Qi P G f F=true)(hS:∀ f F s,T f=some F->F.spec=some s->Rm P G f s)(jd:∀ f s,pr f=some s->Ir P G f s){f:Nat}{vs:List V}{us:List Value}{w:World}(hf:Fn T pr f vs (.bool true))(hg:Alf G w)(hl:vs.length=us.length)
  (hr:∀ j,j<vs.length->RepV ⟨Hr w,[]⟩ w (vs.getD j .und) (us.getD j undef)):Calls P f us.toArray w fun e w'=>e=.returned (.bool true)/\Below w.heap.size w w':=by
 obtain⟨F,h1,h2,h3,v0,σ0,hE,hv⟩:=hf;have jf:=Azw hv;subst jf;refine(Au3 hT hS jd hE us w ⟨Hr w,[]⟩ w.heap.size hl hr (Bjd hg)).mono ?_;rintro _ w' ⟨u,γ',rfl,hu,_,_,hb,_⟩;exact⟨by rw[Ph (Az rfl hu)],hb⟩
def Apl{H:Type}{w:World}{t:TypeId}{v:Value}{d:DataW H}{qc:List V}(h:RowAt P w t v.cells.toList d qc)(hv:v.cells=#[v]):∃ p,qc=[p]/\RepV ⟨Hr w,[]⟩ w p v:=by
 have hl:=h.len;rw[hv]at hl;obtain⟨p,rfl⟩:=Afp.1 (show qc.length=1 by simpa using hl);have:=h.rep 0 (by rw[hv];simp);rw[hv]at this;exact⟨p,rfl,C1 (.row (by simpa using this))⟩
def A6x{H:Type}{w:World}{t:TypeId}{cs:Array Value}{d:DataW H}{qc:List V}(h:RowAt P w t (Value.agg cs).cells.toList d qc):RepV ⟨Hr w,[]⟩ w (.agg qc) (.agg cs):=by
 have h1:qc.length=cs.toList.length:=h.len;have:=Rep1.agg (γ:=⟨Hr w,[]⟩) (w:=w) (cs:=qc) (us:=cs.toList) h1 (fun j hj=>.row (h.rep j (by rw[<-h.len];exact hj)));exact .one (by simpa using this)
end
open Go Go.RowKit Go.Shelf
def Axk(w:World)(g n b:Nat)(h:b≠g):(w.freeze ⟨g,0,none⟩ n).heap[b]?=w.heap[b]?:=by
 unfold World.freeze
 split
 .rfl
 .simp only[Array.getElem?_modify];rw[if_neg (by exact fun e=>h e.symm)]
def Axs(w:World)(g n:Nat){ql:Array Value}{e:TypeId}{lo hi:Nat}(h:w.heap[g]?=some (.cells ql e (lo,hi))):∃ qO qp,(w.freeze ⟨g,0,none⟩ n).heap[g]?=some (.cells ql e (qO,qp))/\qp<=max hi n:=by
 unfold World.freeze
 split
 .exact⟨lo,hi,h,by omega⟩
 .simp only[Array.getElem?_modify,if_true,h,Gb]
  split
  .exact⟨_,_,rfl,by simp<;>omega⟩
  .exact⟨_,_,rfl,by simp<;>omega⟩
section
variable {P:Program} {ρ:Ren}
set_option maxHeartbeats 1000000 in
set_option maxRecDepth 100000 in
def Ayf(L:Lays.n169 P ρ)(X:Builder.Extra P ρ)(b g cap:Nat)(ql:Array Value)(fz:Nat × Nat)(l:List UInt8)(w:World)(h0:l≠[])(qx:w.cell? ⟨b,1,none⟩=some (.slice (some ⟨g,0,none⟩) l.length cap))
  (hg:w.heap[g]?=some (.cells ql (ρ.t 5) fz)) (jq:l.length<=cap) (qi:l.length<=ql.size) (hm:l.length<=9223372036854775807) (qd:∀ j x,l[j]?=some x->w.cell? ((⟨g,0,none⟩:Addr).add j)=some (.int .u8 x.toNat)) :
  Calls P (ρ.f 169) #[.pointer (some ⟨b,0,none⟩)] w fun e w'=>e=.returned (.string ⟨l.toArray⟩)/\w'=w.drew.freeze ⟨g,0,none⟩ l.length:=by
 have jo:l.length≠0:=by simpa using h0
 have c1:w.drew.cell? ⟨b,1,none⟩=some (.slice (some ⟨g,0,none⟩) l.length cap):=qx
 have qR:(Builtin.unsafeSliceData_ #[(ρ.t 37)] (ρ.t 127) #[.slice (some ⟨g,0,none⟩) l.length cap]).run P w.drew=.ok (.pointer (some ⟨g,0,none⟩)) w.drew:=
  Lib.run_unsafeSliceData_row _ _ _ _ _ _ (by omega)
 have qS:(Builtin.unsafeString_ #[(ρ.t 127),(ρ.t 3)] (ρ.t 9) #[.pointer (some ⟨g,0,none⟩),.int .i64 l.length]).run P w.drew=.ok (.string ⟨l.toArray⟩) (w.drew.freeze ⟨g,0,none⟩ l.length):=
  Lib.run_unsafeString_row w.drew (ρ.t 127) (ρ.t 3) (ρ.t 9) (ρ.t 5) L.t127 X.cellsByte g ql.size (by have qY:w.drew.heap[g]?=some (.cells ql (ρ.t 5) fz):=hg;simp[World.shape?,qY]) l h0 qi hm qd
 have mixed:=L.mixed;have t72:=L.t72;have a72:=L.a72;have z72:=L.z72;have v72:=L.v72;have jm:=run_underlying L.t72;have t70:=L.t70;have a70:=L.a70;have z70:=L.z70;have v70:=L.v70;have jl:=run_underlying L.t70;have t37:=L.t37;have a37:=L.a37;have z37:=L.z37;have v37:=L.v37;have jk:=run_underlying L.t37;have t127:=L.t127;have a127:=L.a127;have z127:=L.z127;have v127:=L.v127;have qG:=run_underlying L.t127;have t3:=L.t3;have a3:=L.a3;have z3:=L.z3;have v3:=L.v3;have u3:=run_underlying L.t3;have t9:=L.t9;have a9:=L.a9;have z9:=L.z9;have v9:=L.v9;have u9:=run_underlying L.t9;have t5:=X.t5;have a5:=X.a5;have z5:=X.z5;have v5:=X.v5;have u5:=run_underlying X.t5
 go_enter L.f169,Body.n169_ntmps ρ
 go_wp2
 go_region_o
 all_goals (go_wp2;go_ret;exact⟨rfl,rfl⟩)
set_option maxHeartbeats 1000000 in
set_option maxRecDepth 100000 in
def Ayg(L:Lays.n169 P ρ)(X:Builder.Extra P ρ)(b:Nat)(w:World)(qx:w.cell? ⟨b,1,none⟩=some (.slice none 0 0)):
  Calls P (ρ.f 169) #[.pointer (some ⟨b,0,none⟩)] w fun e w'=>e=.returned (.string ⟨#[]⟩)/\w'=w.drew:=by
 have qS:=Any.unsafeString_none L X;have c1:w.drew.cell? ⟨b,1,none⟩=some (.slice none 0 0):=qx;have qR:(Builtin.unsafeSliceData_ #[(ρ.t 37)] (ρ.t 127) #[.slice none 0 0]).run P w.drew=.ok (.pointer none) w.drew:=rfl;have mixed:=L.mixed;have t72:=L.t72;have a72:=L.a72;have z72:=L.z72;have v72:=L.v72;have jm:=run_underlying L.t72;have t70:=L.t70;have a70:=L.a70;have z70:=L.z70;have v70:=L.v70;have jl:=run_underlying L.t70;have t37:=L.t37;have a37:=L.a37;have z37:=L.z37;have v37:=L.v37;have jk:=run_underlying L.t37;have t127:=L.t127;have a127:=L.a127;have z127:=L.z127;have v127:=L.v127;have qG:=run_underlying L.t127;have t3:=L.t3;have a3:=L.a3;have z3:=L.z3;have v3:=L.v3;have u3:=run_underlying L.t3;have t9:=L.t9;have a9:=L.a9;have z9:=L.z9;have v9:=L.v9;have u9:=run_underlying L.t9;have t5:=X.t5;have a5:=X.a5;have z5:=X.z5;have v5:=X.v5;have u5:=run_underlying X.t5
 go_enter L.f169,Body.n169_ntmps ρ
 go_wp2
 go_region_o
 all_goals (go_wp2;go_ret;exact⟨rfl,rfl⟩)
end
def Axt(w:World)(b:Nat)(us:Array Value)(e:TypeId)(u:Value){fz:Nat × Nat}(h:w.heap[b]?=some (.cells us e fz)):w.setCell ⟨b,0,none⟩ u=w.setRow b (us.setIfInBounds 0 u):=by
 unfold World.setCell World.setRow;congr 1;apply Array.ext_getElem?;intro i;simp only[Array.getElem?_modify]
 split
 .rename_i hi;subst hi;rw[h];simp
 .rfl
def Amd:∀ {xs:List (List V)} {l:List UInt8},Mf xs=some l->l.length=xs.length/\∀ (j:Nat) x,l[j]?=some x->xs.getD j []=[.int .u8 (x.toNat:Int)]
 | [],l,h=>by
  simp[Mf]at h;subst h;exact⟨rfl,fun j x hj=>by simp at hj⟩
 | r::xs,l,h=>by
  unfold Mf at h
  split at h
  .cases h;rename_i e;cases e
  .rename_i n r' e;injection e with e1 e2;subst e1 e2
   split at h
   .rename_i hn;simp only[Bu]at h;obtain⟨l',h,rfl⟩:=h;obtain⟨g1,g2⟩:=Amd h;refine⟨by simp[g1],fun j x hj=>?_⟩
    cases j with
    | zero=>
     simp at hj
     have hx:((UInt8.ofNat n.toNat).toNat:Int)=n:=by
      rw[UInt8.toNat_ofNat'];have:n.toNat % 2 ^ 8=n.toNat:=Xo (by omega);omega
     rw[<-hj,hx];rfl
    | succ j=>exact g2 j x (by simpa using hj)
   .cases h
  .cases h
def Aie:Tryz.prog.underlying 217=some (.pointer 219):=by kernel_rfl
def Apm:(Tryz.prog.info? 219).map (·.size)=some 2:=by kernel_rfl
def An0:Tryz.prog.cellsOf 219=2:=by kernel_rfl
def A2h:sameLayout Tryz.prog Tryz.prog.depth 219 219=true:=by kernel_rfl
def Azy:∃ d,Tryz.prog.depth=d+1:=⟨Tryz.prog.depth - 1,by kernel_rfl⟩
def A2i(n:Nat)(hn:1<=n):liesAt Tryz.prog Tryz.prog.depth 219 n 0 219 1=true:=by
 obtain⟨d,hd⟩:=Azy
 have hr:rowAt Tryz.prog (sameLayout Tryz.prog Tryz.prog.depth · 219) Tryz.prog.depth 219 n 0 1=true:=by
  have:=A2h;generalize hf:(fun x=>sameLayout Tryz.prog Tryz.prog.depth x 219)=f;have qX:f 219=true:=by rw[<-hf];exact this
  rw[hd];unfold rowAt;simp[An0,qX,hn]
 rw[hd];unfold liesAt;rw[hr];rfl
def Amu:Tryz.prog.underlying 281=some .unsafePointer:=by kernel_rfl
set_option maxHeartbeats 1000000 in
set_option maxRecDepth 100000 in
def A6y(b:Nat)(w:World)(h0:w.cell? ⟨b,0,none⟩=some (.pointer (some ⟨b,0,none⟩))):
  Calls Tryz.prog 219 #[.pointer (some ⟨b,0,none⟩)] w fun e w'=>e=.returned (.tuple #[])/\w'=w:=by
 obtain⟨j,hj,_⟩:=Bu.1 Apm
 go_enter Tryz.func219,Tryz.ntmps219
 go_wp2
 rw[Lib.run_neq_ptr_same w _ Aie hj]
 go_wp2
 go_end0
 exact⟨rfl,rfl⟩
set_option maxHeartbeats 1000000 in
set_option maxRecDepth 100000 in
def A2j(b:Nat)(w:World)(h0:w.cell? ⟨b,0,none⟩=some (.pointer none))(n:Nat)(hn:2<=n)(qM:w.shape? b=some (219,n))(jn:w.frozen? ⟨b,0,none⟩=false):
  Calls Tryz.prog 219 #[.pointer (some ⟨b,0,none⟩)] w fun e w'=>e=.returned (.tuple #[])/\w'=w.setCell ⟨b,0,none⟩ (.pointer (some ⟨b,0,none⟩)):=by
 obtain⟨j,hj,qu⟩:=Bu.1 Apm
 go_enter Tryz.func219,Tryz.ntmps219
 go_wp2
 rw[Lib.run_to_unsafe w ⟨b,0,none⟩ Aie Amu hj (by rw[qu];decide) qM (by show 0<n;omega)];simp only[Result.andThen];rw[Oper.upon_value]
 go_wp2
 rw[run_callFunc_extern Tryz.func233 (by kernel_rfl) (by kernel_rfl) (by kernel_rfl) (e:=Extern.AbiNoEscape.same) (by kernel_rfl)];rw[Lib.run_noEscape];simp only[Result.andThen];rw[Oper.upon_value]
 go_wp2
 rw[Lib.run_from_unsafe w ⟨b,0,none⟩ Amu Aie hj qM (by rw[An0];exact A2i _ (by omega))];simp only[Result.andThen];rw[Oper.upon_value]
 go_wp2
 go_end0
 exact⟨rfl,rfl⟩
/-! what they do -/
def Xb(tB:Nat):List V->St->Option (V × St)
 | [.ptr b g 0],σ=>match σ[b]? with
  | some (.row [.nilp,x] e g' 0)=>if g=g'/\e=tB then some (.tup [],σ.set b (.row [.ptr b g 0,x] e g 0)) else none
  | some (.row [.ptr b' g2 0,_] _ g' _)=>if g=g'/\b'=b/\g2=g then some (.tup [],σ) else none
  | _=>none
 | _,_=>none
def Un(tB tE:Nat):List V->St->Option (V × St)
 | [.ptr b g 0],σ=>match σ[b]? with
  | some (.row [_,.nils] e g' _)=>if g=g'/\e=tB then some (.str [],σ) else none
  | some (.row [_,.sl i gi 0 len 1 _] e g' _)=>if g=g'/\e=tB/\0<len then(match σ[i]? with
   | some (.row cs e' qH _)=>if gi=qH/\e'=tE/\len<=cs.length then(Mf (Fc 1 len cs)).map fun l=>(.str l,σ.set i .dead) else none
   | _=>none) else none
  | _=>none
 | _,_=>none
section
variable {G:List (Nat × List V)} {N:Nat} {γ:Gh} {σ:St} {w:World}
def Inv.kill(h:Inv G N γ σ w){i k:Nat}{p:Nat × Nat}{cs:List V}{e g z:Nat}(hp:γ.O[i]?=some p)(ho:σ[i]?=some (.row cs e g z)):
  Inv G N γ (σ.set i .dead) (w.freeze ⟨p.1,0,none⟩ k)/\Ext γ w γ (w.freeze ⟨p.1,0,none⟩ k)/\Below N w (w.freeze ⟨p.1,0,none⟩ k):=by
 obtain⟨q,hq,h1,h2,h3,us,lo,hi,h4,h5,h6,h7⟩:=h.of ho;rw[hp]at hq;injection hq with hq;subst hq;obtain⟨qO,qp,f1,f2⟩:=Axs w p.1 k h4
 have qj:(w.freeze ⟨p.1,0,none⟩ k).heap.size=w.heap.size:=by unfold World.freeze;split<;>simp
 have hs:Eb (w.freeze ⟨p.1,0,none⟩ k) p.1=Eb w p.1:=by simp[Eb,f1,h4]
 have:=h.turn (w':=w.freeze ⟨p.1,0,none⟩ k) (p':=p) (ob':=.dead) (κ':=γ.κ) hp (by omega) (fun b _ hb=>Axk w p.1 k b hb) (fun _ _ _=>rfl) (fun b k hk=>by rw[qj];exact h.dom b k hk) (fun z' hz=>⟨z',hz,Ai _,fun o _=>by simp[World.cell?,f1,h4]⟩) (Ai _) (fun _=>⟨rfl,hs⟩) (.inl rfl) (fun _=>by show p.1<_;rw[qj];exact h.oblt hp);rw[Lo hp]at this;exact⟨this.1,this.2,Lib.below_freeze (Below.refl N w) (p:=⟨p.1,0,none⟩) (h.low i p hp) k⟩
end
def Bf2{G:List (Nat × List V)}:Rm Tryz.prog G 219 (Xb 219):=by
 refine⟨⟨Tryz.f219,_,by kernel_rfl,rfl,by decide⟩,fun args σ v σ' h us w γ N hl ha hI=>?_⟩;unfold Xb at h
 split at h
 .rename_i b g
  match us,hl with
  | [u],_=>
  have hu:=ha 0 (by simp);obtain⟨b1,blk,g1,qn,hB,jb,qs⟩:=Of (Az rfl hu);have qn:u=.pointer (some ⟨b1,0,none⟩):=qn;subst qn
  split at h
  .rename_i x e g' hb
   split at h
   .rename_i qm;cases h;obtain⟨rfl,rfl⟩:=qm;obtain⟨p,hp,q1,q2,q3,us,lo,hi,q4,q5,q6,q7⟩:=hI.of hb;rw[hB]at hp;cases hp;have q1:g1=g:=q1;subst q1;obtain rfl:=qs rfl;have q4:w.heap[b1]?=some (.cells us 219 (lo,hi)):=q4;have q6:2<=us.size:=q6;have c0:us.getD 0 undef=.pointer none:=S6 (q7 0 (by simp));have c1:=q7 1 (by simp)
    have qy:w.cell? ⟨b1,0,none⟩=some (.pointer none):=by
     simp[World.cell?,q4];have:us.getD 0 undef=us[0]:=by simp[Array.getD,show 0<us.size by omega]
     rw[<-c0,this];simp
    refine(A2j b1 w qy us.size q6 (by simp[World.shape?,q4]) (by
     simp only[World.frozen?,q4]
     rcases q5 with⟨a1,a2 | a2⟩<;>simp<;>omega)).mono ?_
    rintro e w' ⟨rfl,rfl⟩;rw[Axt w b1 us _ _ q4]
    obtain⟨i1,i2⟩:=hI.write (g':=g1) (us':=us.setIfInBounds 0 (.pointer (some ⟨b1,0,none⟩))) (cs':=[.ptr b g1 0,x]) hB hb q4 q5 (Ai _) (Au _) (by simp) q6 (fun o ho=>by omega) (fun j hj=>by
     match j,hj with
     | 0,_=>
      have:(us.setIfInBounds 0 (.pointer (some ⟨b1,0,none⟩))).getD 0 undef=.pointer (some ⟨b1,0,none⟩):=by simp[Array.getD_eq_getD_getElem?,show 0<us.size by omega]
      rw[this];exact .ptr hB (Ai _) (fun _=>rfl)
     | 1,_=>
      have:(us.setIfInBounds 0 (.pointer (some ⟨b1,0,none⟩))).getD 1 undef=us.getD 1 undef:=by simp[Array.getD_eq_getD_getElem?,Array.getElem?_setIfInBounds]
      rw[this]
      exact c1)
    exact⟨_,_,rfl,.tup rfl (fun j hj=>by simp at hj),i1,i2,Abc _ (hI.low _ _ hB),fun _ _=>rfl⟩
   .cases h
  .rename_i b' g2 x e g' z hb
   split at h
   .rename_i qm;cases h;obtain⟨rfl,rfl,rfl⟩:=qm;obtain⟨p,hp,q1,q2,q3,us,lo,hi,q4,q5,q6,q7⟩:=hI.of hb;rw[hB]at hp;cases hp;have q1:g1=g2:=q1;subst q1;obtain rfl:=qs rfl;have q4:w.heap[b1]?=some (.cells us e (lo,hi)):=q4;have q6:2<=us.size:=q6;obtain⟨b2,qP,g3,c0,qI,_,qw⟩:=Of (q7 0 (by simp));rw[hB]at qI;cases qI;obtain rfl:=qw rfl
    have qy:w.cell? ⟨b2,0,none⟩=some (.pointer (some ⟨b2,0,none⟩)):=by
     simp[World.cell?,q4];have:us.getD 0 undef=us[0]:=by simp[Array.getD,show 0<us.size by omega]
     rw[<-c0,this];simp
    refine(A6y b2 w qy).mono ?_;rintro e w' ⟨rfl,rfl⟩;exact⟨_,γ,rfl,.tup rfl (fun j hj=>by simp at hj),hI,Ext.refl _ _,Below.refl _ _,fun _ _=>rfl⟩
   .cases h
  .cases h
 .cases h
def Bbm{G:List (Nat × List V)}:Rm Tryz.prog G 169 (Un 219 5):=by
 refine⟨⟨Tryz.f169,_,by kernel_rfl,rfl,by decide⟩,fun args σ v σ' h us w γ N hl ha hI=>?_⟩;unfold Un at h
 split at h
 .rename_i b g
  match us,hl with
  | [u],_=>
  have hu:=ha 0 (by simp);obtain⟨b1,blk,g1,qn,hB,jb,qs⟩:=Of (Az rfl hu);have qn:u=.pointer (some ⟨b1,0,none⟩):=qn;subst qn
  split at h
  .rename_i x e g' z hb
   split at h
   .rename_i qm;cases h;obtain⟨rfl,rfl⟩:=qm;obtain⟨p,hp,q1,q2,q3,us,lo,hi,q4,q5,q6,q7⟩:=hI.of hb;rw[hB]at hp;cases hp;have q1:g1=g:=q1;subst q1;obtain rfl:=qs rfl;have q4:w.heap[b1]?=some (.cells us 219 (lo,hi)):=q4;have q6:2<=us.size:=q6;have c1:us.getD 1 undef=.slice none 0 0:=Jr (q7 1 (by simp))
    have qo:w.cell? ⟨b1,1,none⟩=some (.slice none 0 0):=by
     simp[World.cell?,q4];have:us.getD 1 undef=us[1]:=by simp[Array.getD,show 1<us.size by omega]
     rw[<-c1,this];simp
    refine(Ayg Tryz.lays169 Tryz.Builder_Extra_169 b1 w qo).mono ?_;rintro e w' ⟨rfl,rfl⟩;obtain⟨d1,d2⟩:=hI.drew;exact⟨_,γ,rfl,C1 (.row (.str (by simp[maxLen]))),d1,d2,(Below.refl N w).drew,fun _ _=>rfl⟩
   .cases h
  .rename_i x i gi len own e g' z hb
   split at h
   .rename_i qm;obtain⟨rfl,rfl,jc⟩:=qm
    split at h
    .rename_i cs e' qH zi qp
     split at h
     .rename_i hc;obtain⟨rfl,rfl,qf⟩:=hc;simp only[Bu]at h;obtain⟨l,je,h⟩:=h;cases h;obtain⟨p,hp,q1,q2,q3,us,lo,hi,q4,q5,q6,q7⟩:=hI.of hb;rw[hB]at hp;cases hp;have q1:g1=g:=q1;subst q1;obtain rfl:=qs rfl;have q4:w.heap[b1]?=some (.cells us 219 (lo,hi)):=q4;have q6:2<=us.size:=q6;obtain⟨bb,oo,cap,bk,gk,c1,k1,k2,k3,k4,k5,k6⟩:=Vz (q7 1 (by simp));have c1:us.getD 1 undef=.slice (some ⟨bb,oo,none⟩) len cap:=c1;obtain⟨p,hp,r1,r2,r3,vs,Li,qK,r4,r5,r6,r7⟩:=hI.of qp;rw[k1]at hp;cases hp;have r1:gk=gi:=r1;subst r1;obtain⟨rfl,_⟩:=k6 rfl;obtain rfl:=k5 (by omega);have r4:w.heap[bb]?=some (.cells vs 5 (Li,qK)):=r4;obtain⟨n1,n2⟩:=Amd je;have qF:l.length=len:=by rw[n1];simp[Yu]
      have qo:w.cell? ⟨b1,1,none⟩=some (.slice (some ⟨bb,0,none⟩) l.length cap):=by
       rw[qF];simp[World.cell?,q4];have:us.getD 1 undef=us[1]:=by simp only[Array.getD];rw[dif_pos (show 1<us.size by omega)];rfl
       rw[<-c1,this];simp
      refine(Ayf Tryz.lays169 Tryz.Builder_Extra_169 b1 bb cap vs (Li,qK) l w (by rintro rfl;simp at qF;omega) qo r4 (by omega) (by omega) (by unfold maxLen at k4;omega) (fun j x hj=>?_)).mono ?_
      .have qt:j<len:=by rw[<-qF];exact(Ak.1 hj).1
       have a1:=n2 j x hj;have a2:=r7 j (by omega)
       have qU:cs.getD j .und=.int .u8 (x.toNat:Int):=by
        rw[Yu]at a1;have qC:j<cs.length:=by omega
        simp[Av,qt,qC]at a1;rw[Av,Bc qC];rw[List.take_one]at a1;simpa[qC] using a1
       rw[qU]at a2;have a3:=Er a2;rw[K1];have qu:j<vs.size:=by omega
       have:vs.getD j undef=vs[j]:=by simp[Array.getD,qu]
       simp[World.cell?,r4,qu];rw[<-this];exact a3
      .rintro e w' ⟨rfl,rfl⟩;obtain⟨d1,d2⟩:=hI.drew;obtain⟨f1,f2,f3⟩:=d1.kill (k:=l.length) k1 qp;exact⟨_,γ,rfl,C1 (.row (.str (by omega))),f1,d2.trans f2,((Below.refl N w).drew).trans f3,fun _ _=>rfl⟩
     .cases h
    .cases h
   .cases h
  .cases h
 .cases h
open Go Go.RowKit
def D8(zs:List Int):List V:=zs.map (V.int .i64)
def Re:List V->Option (List Int)
 | []=>some []
 | .int .i64 n::l=>(Re l).map (n::·)
 | _=>none
def Aho:∀ zs:List Int,Re (D8 zs)=some zs
 | []=>rfl
 | z::zs=>by
  have:=Aho zs;unfold D8 at this ⊢;rw[Bb,Re,this];rfl
def An1{cs:List V}:∀ {zs:List Int},Re cs=some zs->cs=D8 zs:=by
 induction cs with
 | nil=>intro zs h;cases h;rfl
 | cons c l ih=>
  intro zs h;unfold Re at h
  split at h
  .rename_i e;cases e
  .rename_i n l' e;cases e
   cases h1:Re l with
   | none=>rw[h1]at h;cases h
   | some ys=>
    rw[h1]at h;cases h;rw[ih h1];rfl
  .cases h
section
variable {G:List (Nat × List V)} {N:Nat} {γ:Gh} {σ:St} {w:World}
def An2(hI:Inv G N γ σ w){i g e b:Nat}{zs:List Int}(hO:γ.O[i]?=some (b,g))(ho:σ[i]?=some (.row (D8 zs) e g 0)):Sort.Holds (Value.int .i64) w b 0 zs.toArray:=by
 obtain⟨p,hp,h1,h2,h3,us,lo,hi,h4,h5,h6,h7⟩:=hI.of ho;rw[hO]at hp;cases hp;have h4:w.heap[b]?=some (.cells us e (lo,hi)):=h4;have h6:zs.length<=us.size:=by simpa[D8] using h6
 intro j hj;have hj:j<zs.length:=by simpa using hj
 have h8:=h7 j (by simpa[D8] using hj);have e1:(D8 zs).getD j .und=.int .i64 zs[j]:=by simp[D8,hj]
 rw[e1]at h8;have e2:us.getD j undef=.int .i64 zs[j]:=Er h8;have e3:us.getD j undef=us[j]:=by simp[Array.getD,show j<us.size by omega]
 have e4:(zs.toArray[j]!)=zs[j]:=by rw[getElem!_pos zs.toArray j (by simpa using hj)];simp
 constructor
 .simp[World.cell?,h4,E3,show j<us.size by omega];rw[<-e3,e2,<-e4];simp[hj]
 .simp only[World.frozen?,h4,E3]
  rcases h5 with⟨a1,a2 | a2⟩<;>simp<;>omega
def Amv(hI:Inv G N γ σ w){i g e b n:Nat}{zs zs':List Int}{os:Array Obj}(hO:γ.O[i]?=some (b,g))(ho:σ[i]?=some (.row (D8 zs) e g 0))(hl:zs'.length=zs.length):
  Inv G N γ (σ.set i (.row (D8 zs') e g 0)) (Sort.grow (Sort.putRow (Value.int .i64) (Sort.ahead w n) b 0 zs'.toArray) os)/\Ext γ w γ (Sort.grow (Sort.putRow (Value.int .i64) (Sort.ahead w n) b 0 zs'.toArray) os)/\Below N w (Sort.grow (Sort.putRow (Value.int .i64) (Sort.ahead w n) b 0 zs'.toArray) os):=by
 obtain⟨p,hp,h1,h2,h3,us,lo,hi,h4,h5,h6,h7⟩:=hI.of ho;rw[hO]at hp;cases hp;have h4:w.heap[b]?=some (.cells us e (lo,hi)):=h4;have h6:zs.length<=us.size:=by simpa[D8] using h6
 have qj:(Sort.putCells (Value.int .i64) 0 zs'.toArray us).size=us.size:=by simp[Sort.putCells]
 have hc:∀ j,j<(D8 zs').length->RepC γ w ((D8 zs').getD j .und) ((Sort.putCells (Value.int .i64) 0 zs'.toArray us).getD j undef):=by
  intro j hj;have hj:j<zs'.length:=by simpa[D8] using hj
  have e1:(D8 zs').getD j .und=.int .i64 zs'[j]:=by simp[D8,hj]
  have e2:(Sort.putCells (Value.int .i64) 0 zs'.toArray us).getD j undef=.int .i64 zs'[j]:=by
   have e4:(zs'.toArray[j]!)=zs'[j]:=by rw[getElem!_pos zs'.toArray j (by simpa using hj)];simp
   simp[Sort.putCells,Array.getD_eq_getD_getElem?,Array.getElem?_mapIdx,show j<us.size by omega,hj]
  rw[e1,e2];exact .row .int
 obtain⟨i1,i2⟩:=hI.write (g':=g) (us':=Sort.putCells (Value.int .i64) 0 zs'.toArray us) (cs':=D8 zs') hO ho h4 h5 (Ai _) (Au _) qj (by simp[D8];omega) (fun o ho=>by omega) hc;rw[Lo hO]at i1 i2;have hb:b<w.heap.size:=hI.oblt hO
 have qk:∀ k,k<(w.setRow b (Sort.putCells (Value.int .i64) 0 zs'.toArray us)).heap.size->(Sort.grow (Sort.putRow (Value.int .i64) (Sort.ahead w n) b 0 zs'.toArray) os).heap[k]?=(w.setRow b (Sort.putCells (Value.int .i64) 0 zs'.toArray us)).heap[k]?:=by
  intro k hk;have hk:k<w.heap.size:=by simpa[World.setRow] using hk
  rw[Sort.heap_grow_old _ _ (by simpa[Sort.putRow,Sort.mapBlock,Sort.ahead] using hk)];simp only[Sort.putRow,Sort.mapBlock,Sort.ahead,Array.getElem?_modify];by_cases qE:b=k
  .subst qE;rw[setRow_heap w b us _ e _ h4,if_pos rfl,h4];rfl
  .rw[if_neg qE,setRow_other w b k _ (Ne.symm qE)]
 have hs:(w.setRow b (Sort.putCells (Value.int .i64) 0 zs'.toArray us)).heap.size<=(Sort.grow (Sort.putRow (Value.int .i64) (Sort.ahead w n) b 0 zs'.toArray) os).heap.size:=by
  simp[World.setRow,Sort.putRow,Sort.mapBlock,Sort.ahead]
 obtain⟨j1,j2⟩:=i1.more (κ':=γ.κ) qk hs (fun _ _=>rfl) (fun b k hk=>Pa (i1.dom b k hk) hs);refine⟨j1,i2.trans j2,⟨rfl,rfl,rfl,?_,fun k hk=>?_⟩⟩
 .have:(w.setRow b (Sort.putCells (Value.int .i64) 0 zs'.toArray us)).heap.size=w.heap.size:=by simp[World.setRow]
  omega
 .have h9:=hI.base;rw[qk k (by have:(w.setRow b (Sort.putCells (Value.int .i64) 0 zs'.toArray us)).heap.size=w.heap.size:=(by simp[World.setRow]);omega),setRow_other w b k _ (by have:=hI.low _ _ hO;simp at this;omega)]
end
/-! what they do -/
def J0(zs:List Int):List Int:=zs.mergeSort fun x y=>decide (x<=y)
def Aac:List V->St->Option (V × St)
 | [.nils],σ=>some (.tup [],σ)
 | [.sl i g 0 len 1 _],σ=>match σ[i]? with
  | some (.row cs e g' 0)=>match Re cs with
   | some zs=>if g=g'/\zs.length=len/\len<4611686018427387904 then some (.tup [],σ.set i (.row (D8 (J0 zs)) e g' 0)) else none
   | none=>none
  | _=>none
 | _,_=>none
def Aad:List V->St->Option (V × St)
 | [.nils],σ=>some (.nils,σ)
 | [.sl i g 0 len 1 _],σ=>match σ[i]? with
  | some (.row cs e g' 0)=>match Re cs with
   | some zs=>if g=g'/\zs.length=len/\len<=9223372036854775807 then some (.sl i g 0 (Lib.compact zs).length 1 false,σ.set i (.row (D8 (Lib.compact zs++List.replicate (zs.length - (Lib.compact zs).length) 0)) e g' 0)) else none
   | none=>none
  | _=>none
 | _,_=>none
def Ag2(zs:List Int):(J0 zs).length=zs.length:=List.length_mergeSort _
def Arx(zs:List Int):(Lib.compact zs).length<=zs.length:=by
 unfold Lib.compact Lib.compactUpTo;rw[Ap];exact Cw (List.length_filter_le _ _) (by simp)
def Apn{γ:Gh}{w:World}{i g len m:Nat}{own:Bool}{u:Value}(h:RepC γ w (.sl i g 0 len m own) u):∃ blk g' b' o' cap,u=.slice (some ⟨b',o',none⟩) len cap/\γ.O[i]?=some (blk,g')/\g<=g'/\len<=cap/\cap<=maxLen/\(0<cap->o'=0)/\(g=g'->b'=blk/\(own=true->Eb w blk=some (0+cap*m))):=by
 cases h with
 | row h=>cases h
 | sl h1 h2 h3 h4 h5 h6=>exact⟨_,_,_,_,_,rfl,h1,h2,h3,h4,h5,h6⟩
def Bbn{G:List (Nat × List V)}:Rm Tryz.prog G 23 Aac:=by
 refine⟨⟨Tryz.f23,_,by kernel_rfl,rfl,by decide⟩,fun args σ v σ' h us w γ N hl ha hI=>?_⟩;unfold Aac at h
 split at h
 .cases h
  match us,hl with
  | [u],_=>
  have hu:u=.slice none 0 0:=Jr (Az rfl (ha 0 (by simp)));subst hu;refine(Tryz.slices_Sort_int_none none 0 w).mono ?_;rintro e w' ⟨rfl,rfl⟩;exact⟨_,γ,rfl,.tup rfl (fun j hj=>by simp at hj),hI,Ext.refl _ _,Below.refl _ _,fun _ _=>rfl⟩
 .rename_i i g len own
  match us,hl with
  | [u],_=>
  obtain⟨blk,g1,b',o',cap,rfl,hO,qZ,qo,qz,qA,qB⟩:=Apn (Az rfl (ha 0 (by simp)))
  split at h
  .rename_i cs e g' hi
   split at h
   .rename_i zs hz
    split at h
    .rename_i hc;cases h;obtain⟨rfl,rfl,qj⟩:=hc;have qi:=An1 hz;subst qi;obtain⟨p,hp,q1,-⟩:=hI.of hi;rw[hO]at hp;cases hp;have q1:g1=g:=q1;subst q1;obtain⟨rfl,-⟩:=qB rfl;rcases Sj cap with h0 | h0
     .have hn:zs=[]:=Qp.1 (by omega);subst hn;subst h0;refine(Tryz.slices_Sort_int_none (some ⟨b',o',none⟩) 0 w).mono ?_;rintro e w' ⟨rfl,rfl⟩;rw[show J0 []=[] by simp[J0],Lo hi];exact⟨_,γ,rfl,.tup rfl (fun j hj=>by simp at hj),hI,Ext.refl _ _,Below.refl _ _,fun _ _=>rfl⟩
     .obtain rfl:=qA h0;refine(Tryz.slices_Sort_int b' 0 cap zs w (An2 hI hO hi) (hI.oblt hO) qj).mono ?_;rintro e w' ⟨rfl,n,os,rfl⟩;obtain⟨i1,i2,i3⟩:=Amv (n:=n) (os:=os) (zs':=J0 zs) hI hO hi (Ag2 zs);exact⟨_,γ,rfl,.tup rfl (fun j hj=>by simp at hj),i1,i2,i3,fun _ _=>rfl⟩
    .cases h
   .cases h
  .cases h
 .cases h
def Bbo{G:List (Nat × List V)}:Rm Tryz.prog G 24 Aad:=by
 refine⟨⟨Tryz.f24,_,by kernel_rfl,rfl,by decide⟩,fun args σ v σ' h us w γ N hl ha hI=>?_⟩;unfold Aad at h
 split at h
 .cases h
  match us,hl with
  | [u],_=>
  have hu:u=.slice none 0 0:=Jr (Az rfl (ha 0 (by simp)));subst hu;refine(Tryz.slices_Compact_int_empty none 0 w).mono ?_;rintro e w' ⟨rfl,rfl⟩;exact⟨_,γ,rfl,C1 (.row .nils),hI,Ext.refl _ _,Below.refl _ _,fun _ _=>rfl⟩
 .rename_i i g len own
  match us,hl with
  | [u],_=>
  obtain⟨blk,g1,b',o',cap,rfl,hO,qZ,qo,qz,qA,qB⟩:=Apn (Az rfl (ha 0 (by simp)))
  split at h
  .rename_i cs e g' hi
   split at h
   .rename_i zs hz
    split at h
    .rename_i hc;cases h;obtain⟨rfl,rfl,qj⟩:=hc;have qi:=An1 hz;subst qi;obtain⟨p,hp,q1,-⟩:=hI.of hi;rw[hO]at hp;cases hp;have q1:g1=g:=q1;subst q1;obtain⟨rfl,-⟩:=qB rfl;have qf:=Arx zs;rcases Sj cap with h0 | h0
     .have hn:zs=[]:=Qp.1 (by omega);subst hn;subst h0;refine(Tryz.slices_Compact_int_empty (some ⟨b',o',none⟩) 0 w).mono ?_;rintro e w' ⟨rfl,rfl⟩;rw[show D8 (Lib.compact []++List.replicate (([]:List Int).length - (Lib.compact []).length) 0)=D8 [] from rfl,Lo hi];exact⟨_,γ,rfl,C1 (.sl hO (Ai _) (Ai _) qz (fun h=>by omega) (fun _=>⟨rfl,fun h=>by cases h⟩)),hI,Ext.refl _ _,Below.refl _ _,fun _ _=>rfl⟩
     .obtain rfl:=qA h0;refine(Tryz.slices_Compact_int b' 0 cap zs w (An2 hI hO hi) qj qo).mono ?_;rintro e w' ⟨rfl,n,rfl⟩;obtain⟨i1,i2,i3⟩:=Amv (n:=n) (os:=#[]) (zs':=Lib.compact zs++List.replicate (zs.length - (Lib.compact zs).length) 0) hI hO hi (by simp;omega);rw[Sort.grow_empty]at i1 i2 i3;exact⟨_,γ,rfl,C1 (.sl hO (Ai _) (by omega) qz (fun _=>rfl) (fun _=>⟨rfl,fun h=>by cases h⟩)),i1,i2,i3,fun _ _=>rfl⟩
    .cases h
   .cases h
  .cases h
 .cases h
