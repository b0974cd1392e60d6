/- The plain machine's forms, read off the program's own functions. -/
import Derived.Test.YtphikjgngompaaaGreatDoorA5
set_option linter.all false
namespace Go.Proofs.YtphikjgngompaaaGreatDoor.KM
open Go
inductive TD where
 | i (k:IntKind) | s | b | it | f | sl (e:Nat) | pt (e:Nat) | ar (n e:Nat) | st (fs:List (Nat × Nat)) | mp (v:Nat)
structure TyR where
 d:TD
 z:List V
 n:Nat
 one:Bool
 by':Nat
 pl:Bool
section
variable (ty:Nat->TyR) (gl:Nat->V) (lt:Nat->Nat)
def A0f:Value->V
 | .bool b=>.bool b
 | .int k n=>.int k n
 | .string s=>.str s.data.toList
 | .pointer _=>.nilp
 | .slice _ _ _=>.nils
 | .nilFunc=>.nilf
 | .nilIface=>.nili
 | _=>.und
def Amh:List Value->List V
 | []=>[]
 | v::l=>A0f v::Amh l
def A1e:Value->V
 | .agg cs=>.agg (Amh cs.toList)
 | .bool b=>.bool b
 | .int k n=>.int k n
 | .string s=>.str s.data.toList
 | .pointer _=>.nilp
 | .slice _ _ _=>.nils
 | .nilFunc=>.nilf
 | .nilIface=>.nili
 | _=>.und
def D1:Operand->S
 | .tmp t=>.t t
 | .const v=>.k (A1e v)
 | .func f=>.k (.fn f [] [])
 | .global g=>.k (gl g)
def V7:List Operand->List S
 | []=>[]
 | x::l=>D1 gl x::V7 l
def Ahw:Option Operand->Option S
 | none=>none
 | some x=>some (D1 gl x)
def A0g:TD->Nat->S->Nat × Nat × S
 | .st fs,i,s=>match fs[i]? with
  | some (o,t)=>(o,(ty t).n,s)
  | none=>(0,0,s)
 | .ar _ e,i,s=>(i*(ty e).n,(ty e).n,s)
 | _,_,s=>(0,0,s)
def Ami(d:TD):List (Nat × Operand)->List (Nat × Nat × S)
 | []=>[]
 | (i,x)::l=>A0g ty d i (D1 gl x)::Ami d l
def Ann:List (Nat × Operand)->List (Nat × S)
 | []=>[]
 | (i,x)::l=>(i,D1 gl x)::Ann l
def A1f:Nat->Bool->Nat->TyR->Nat->List (Nat × S)->AO
 | 0,true,_,y,n,ps=>.rows n y.z ps
 | 0,false,_,y,n,ps=>.rowf n y.z ps
 | 1,_,_,y,n,ps=>.rows n y.z ps
 | 2,_,e,y,n,ps=>.rowo e n y.z ps
 | _,_,_,y,n,ps=>.rowf n y.z ps
def Ayn:TD->Nat->List (Nat × S)->AO
 | .sl e,n,ps=>A1f (lt e) (ty e).pl e (ty e) n ps
 | _,_,_=>.mmk
def A0h:V->Nat
 | .bool _=>0
 | .str _=>2
 | _=>1
def Agb:List V->List Nat
 | []=>[]
 | x::l=>A0h x::Agb l
def A1g(z:List V):TD->Option EqK
 | .b=>some .bool
 | .sl _=>some .nilsl
 | .pt _=>some .nilpt
 | .f=>some .nilfn
 | .it=>some .nilif
 | .st _=>some (.flat (Agb z))
 | .ar _ _=>some (.flat (Agb z))
 | _=>none
def A1h:BinOp->Option EqK->S->S->AO
 | .eql,some k,x,y=>.eq k false x y
 | .neq,some k,x,y=>.eq k true x y
 | b,_,x,y=>.bin b x y
def A1i:TD->TD->S->AO
 | .i _,.i k,x=>.cvi k x
 | _,_,x=>.mov x
def A1j:TD->S->Option S->Option S->Option S->AO
 | .s,x,l,h,_=>.slcs x l h
 | .sl e,x,l,h,m=>.slc (ty e).n x l h m
 | .ar n e,x,l,h,_=>.slca n (ty e).n x l h
 | _,x,_,_,_=>.mov x
def Ayo:TD->TD
 | .pt e=>(ty e).d
 | .s=>.s
 | .sl e=>.sl e
 | .ar n e=>.ar n e
 | d=>d
def A1k:TD->Nat->S->AO
 | .st fs,i,x=>match fs[i]? with
  | some (o,_)=>.fad o x
  | none=>.mov x
 | _,_,x=>.mov x
def A1l:TD->Nat->S->AO
 | .st fs,i,x=>match fs[i]? with
  | some (o,t)=>.fld o (ty t).n (ty t).one x
  | none=>.mov x
 | _,_,x=>.mov x
def A1m:TD->S->S->AO
 | .sl e,x,i=>.iad (ty e).n x i
 | .ar n e,x,i=>.iar n (ty e).n x i
 | _,x,_=>.mov x
def A1n:TD->S->S->AO
 | .ar n e,x,i=>.ida n (ty e).n (ty e).one x i
 | .s,x,i=>.idx x i
 | _,x,_=>.mov x
def A0i:TD->S->S->AO
 | .mp e,x,i=>match (ty e).z with
  | [z]=>.mlk z x i
  | _=>.mmk
 | _,x,_=>.mov x
def rMk:TD->S->S->AO
 | .sl e,x,y=>.mk e (ty e).by' (ty e).z x y
 | _,x,_=>.mov x
def A1o:TD->S->AO
 | _,x=>.mov x
def A1p:TD->S->AO
 | .s,x=>.lens x
 | .sl _,x=>.len x
 | _,x=>.mov x
def A1q:TD->TD->S->S->AO
 | .sl e,.s,x,y=>.apps e x y
 | .sl e,.sl _,x,y=>.app (ty e).by' ((ty e).n,e) x y
 | _,_,x,_=>.mov x
def Ayp:Builtin->List S->List Nat->AO
 | .len,[x],[t]=>A1p (ty t).d x
 | .append,[x,y],[t,u]=>A1q ty (ty t).d (ty u).d x y
 | .max,[x,y],_=>.mx x y
 | .min,[x,y],_=>.mn x y
 | _,_,_=>.mmk
def A0j:Callee->List Operand->List Nat->AO
 | .value (.func f),xs,_=>.call f (V7 gl xs)
 | .value (.tmp t),xs,_=>.callv (.t t) (V7 gl xs)
 | .builtin b,xs,ts=>Ayp ty b (V7 gl xs) ts
 | _,_,_=>.mmk
def A1r:Go.Fn->List S->List S->AO
 | _,_,_=>.mmk
def rOp:Op->AO
 | .move x=>.mov (D1 gl x)
 | .assign x=>.mov (D1 gl x)
 | .pick c a b=>.pick (D1 gl c) (D1 gl a) (D1 gl b)
 | .alloc t=>.new t (ty t).z
 | .box t x=>.box t (D1 gl x)
 | .build t ps=>.build (ty t).z (Ami ty gl (ty t).d ps.toList)
 | .buildSlice t n ps=>Ayn ty lt (ty t).d n (Ann gl ps.toList)
 | .load t x=>.load (ty t).n (ty t).one (D1 gl x)
 | .store t x v=>.store (ty t).n (D1 gl x) (D1 gl v)
 | .nilCheck x=>.chk (D1 gl x)
 | .binOp b t x y _=>A1h b (A1g (ty t).z (ty t).d) (D1 gl x) (D1 gl y)
 | .unOp u _ x=>.un u (D1 gl x)
 | .convert s d x=>A1i (ty s).d (ty d).d (D1 gl x)
 | .sliceToArrayPointer t x=>A1o (ty t).d (D1 gl x)
 | .makeFunc f a c=>A1r f (V7 gl a.toList) (V7 gl c.toList)
 | .makeMap _ _=>.mmk
 | .makeSlice t x y=>rMk ty (ty t).d (D1 gl x) (D1 gl y)
 | .slice t x l h m=>A1j ty (Ayo ty (ty t).d) (D1 gl x) (Ahw gl l) (Ahw gl h) (Ahw gl m)
 | .fieldAddr t x i=>A1k (ty t).d i (D1 gl x)
 | .field t x i=>A1l ty (ty t).d i (D1 gl x)
 | .indexAddr t x i=>A1m ty (ty t).d (D1 gl x) (D1 gl i)
 | .index t x i=>A1n ty (ty t).d (D1 gl x) (D1 gl i)
 | .lookup t x i _=>A0i ty (ty t).d (D1 gl x) (D1 gl i)
 | .mapUpdate _ x k v=>.mup (D1 gl x) (D1 gl k) (D1 gl v)
 | .extract x i=>.ext i (D1 gl x)
 | .call c=>A0j ty gl c.callee c.args.toList c.argTypes.toList
 | _=>.mmk
/-! sets of slots -/
def Dl:Operand->Nat
 | .tmp t=>1 <<< t
 | .const _=>0
 | .func _=>0
 | .global _=>0
def Ab7:List Operand->Nat
 | []=>0
 | x::l=>Dl x ||| Ab7 l
def Ahx:Option Operand->Nat
 | none=>0
 | some x=>Dl x
def Agc:List (Nat × Operand)->Nat
 | []=>0
 | (_,x)::l=>Dl x ||| Agc l
def A1s:Callee->Nat
 | .value f=>Dl f
 | .invoke r _=>Dl r
 | .builtin _=>0
def uOp:Op->Nat
 | .move x=>Dl x
 | .assign x=>Dl x
 | .pick c a b=>Dl c ||| Dl a ||| Dl b
 | .alloc _=>0
 | .box _ x=>Dl x
 | .build _ ps=>Agc ps.toList
 | .buildSlice _ _ ps=>Agc ps.toList
 | .load _ x=>Dl x
 | .store _ x v=>Dl x ||| Dl v
 | .nilCheck x=>Dl x
 | .binOp _ _ x y _=>Dl x ||| Dl y
 | .unOp _ _ x=>Dl x
 | .convert _ _ x=>Dl x
 | .sliceToArrayPointer _ x=>Dl x
 | .makeFunc _ a c=>Ab7 a.toList ||| Ab7 c.toList
 | .makeMap _ _=>0
 | .makeSlice _ x y=>Dl x ||| Dl y
 | .slice _ x l h m=>Dl x ||| Ahx l ||| Ahx h ||| Ahx m
 | .fieldAddr _ x _=>Dl x
 | .field _ x _=>Dl x
 | .indexAddr _ x i=>Dl x ||| Dl i
 | .index _ x i=>Dl x ||| Dl i
 | .lookup _ x i _=>Dl x ||| Dl i
 | .mapUpdate _ x k v=>Dl x ||| Dl k ||| Dl v
 | .extract x _=>Dl x
 | .call c=>A1s c.callee ||| Ab7 c.args.toList
 | _=>0
def Acp:Nat->Nat->Nat->List Nat
 | 0,_,_=>[]
 | f+1,i,m=>match m==0 with
  | true=>[]
  | false=>match m % 256==0 with
   | true=>Acp f (i+8) (m / 256)
   | false=>match m % 2==0 with
    | true=>Acp f (i+1) (m / 2)
    | false=>i::Acp f (i+1) (m / 2)
def bits(m:Nat):List Nat:=Acp 800 0 m
def Ahy(a b:Nat):Nat:=a ^^^ (a &&& b)
def Ahz(all:List Oper):Option (Nat × Bool)->Option (Nat × Bool)
 | none=>none
 | some (j,w)=>match all[j]? with
  | some r=>match r.dst with
   | some d=>some (d,w)
   | none=>none
  | none=>none
def Ano:Option (Nat × Bool)->Nat
 | none=>0
 | some (t,_)=>1 <<< t
def Anp:Option Nat->Nat
 | none=>0
 | some t=>1 <<< t
def rAI:Option Nat->Option (Nat × Bool)->AO->AI
 | some d,none,a=>o d a
 | none,none,a=>on a
 | some d,some (t,w),a=>og d a t w
 | none,some (t,w),a=>oh a t w
def Aov(all:List Oper):List Oper->List AI
 | []=>[]
 | r::l=>rAI r.dst (Ahz all r.guard) (rOp ty gl lt r.op)::Aov all l
def Aow(all:List Oper):List Oper->Nat
 | []=>0
 | r::l=>uOp r.op ||| Ano (Ahz all r.guard) ||| Anp r.dst ||| Aow all l
def Ah0(all:List Oper)(out:Nat):List Oper->Nat
 | []=>out
 | r::l=>Ahy (Ah0 all out l) (Anp r.dst) ||| uOp r.op ||| Ano (Ahz all r.guard)
def A0k:Ground->Nat->Nat
 | .textOnly _,_=>0
 | .gcOnly _,_=>0
 | .data,n=>1 <<< n
 | .chain,n=>1 <<< n
 | .guard,n=>1 <<< n
 | .phase,n=>1 <<< n
def Amj:List Edge->Nat
 | []=>0
 | e::l=>A0k e.ground e.on ||| Amj l
def Anq:List Oper->List (List Nat)
 | []=>[]
 | r::l=>bits (Amj r.after.toList)::Anq l
def A1t:Bool->List Nat->List Oper->List AI->AC
 | true,kill,os,l=>.drw kill (Anq os) l
 | false,kill,_,l=>.reg kill l
def Ah1:List (Nat × Nat)->Nat->Nat
 | [],_=>0
 | (i,m)::l,j=>match i==j with
  | true=>m
  | false=>Ah1 l j
def Pg:Code->Nat
 | .seq a b=>Pg a+Pg b
 | .cond _ a b=>Pg a+Pg b
 | .block _ c=>Pg c
 | .scope c=>Pg c
 | .loop c=>Pg c+1
 | _=>0
def A0l:Op->Bool
 | .makeInterface _ _=>true
 | .panic _=>true
 | _=>false
def Agd:List Oper->Bool
 | []=>false
 | r::l=>match A0l r.op with
  | true=>true
  | false=>Agd l
def N6(rs:Nat):Code->List (Nat × Nat)->Nat->Nat
 | .skip,_,out=>out
 | .label _,_,out=>out
 | .ret,_,_=>rs
 | .exit i,ex,_=>Ah1 ex i
 | .seq a b,ex,out=>N6 rs a ex (N6 rs b ex out)
 | .cond c a b,ex,out=>Dl c ||| N6 rs a ex out ||| N6 rs b ex out
 | .block i c,ex,out=>N6 rs c ((i,out)::ex) out
 | .scope c,ex,out=>N6 rs c ex out
 | .loop c,ex,_=>
  let h1:=N6 rs c ex 0
  let h2:=h1 ||| N6 rs c ex h1
  let h3:=h2 ||| N6 rs c ex h2
  h3 ||| N6 rs c ex h3
 | .region _ ops _,_,out=>match Agd ops.toList with
  | true=>0
  | false=>Ah0 ops.toList out ops.toList
 | _,_,_=>0
def ixL:List AC->Nat->AC
 | [],_=>.skip
 | c::l,i=>match i==0 with
  | true=>c
  | false=>ixL l (i - 1)
def Rx(ls:List AC)(rs:Nat):Code->List (Nat × Nat)->Nat->Nat->AC × Nat × List AC
 | .skip,_,_,out=>(.skip,out,[])
 | .label _,_,_,out=>(.skip,out,[])
 | .ret,_,_,_=>(.ret,rs,[])
 | .exit i,ex,_,_=>(.exit i,Ah1 ex i,[])
 | .seq a b,ex,n,out=>
  let y:=Rx ls rs b ex (n+Pg a) out
  let x:=Rx ls rs a ex n y.2.1
  (.seq x.1 y.1,x.2.1,x.2.2++y.2.2)
 | .cond c a b,ex,n,out=>
  let x:=Rx ls rs a ex n out
  let y:=Rx ls rs b ex (n+Pg a) out
  (.cond (D1 gl c) (bits (Ahy (Dl c) (x.2.1 ||| y.2.1))) x.1 y.1,Dl c ||| x.2.1 ||| y.2.1,x.2.2++y.2.2)
 | .block i c,ex,n,out=>
  let x:=Rx ls rs c ((i,out)::ex) n out
  (.blk i x.1,x.2.1,x.2.2)
 | .scope c,ex,n,out=>
  let x:=Rx ls rs c ex n out
  (.blk 1000000 x.1,x.2.1,x.2.2)
 | .loop c,ex,n,out=>
  let h:=N6 rs (.loop c) ex out
  let x:=Rx ls rs c ex n h
  (.loop (bits h) (ixL ls (n+Pg c)),h,x.2.2++[x.1])
 | .region _ ops d,_,_,out=>match Agd ops.toList with
  | true=>(.cond (.k .und) [] .skip .skip,0,[])
  | false=>(A1t d (bits (Ahy (Aow ops.toList ops.toList) out)) ops.toList (Aov ty gl lt ops.toList ops.toList),Ah0 ops.toList out ops.toList,[])
 | _,_,_,_=>(.skip,0,[])
def Ah2:List ResultVar->List AR
 | []=>[]
 | .tmp t::l=>.tmp t::Ah2 l
 | .cell t y::l=>.cell t (ty y).n (ty y).one::Ah2 l
def Acq:List ResultVar->Nat
 | []=>0
 | .tmp t::l=>1 <<< t ||| Acq l
 | .cell t _::l=>1 <<< t ||| Acq l
def Anr(ls:List AC)(rs:Nat):Option Code->AC × Nat × List AC
 | some c=>Rx ty gl lt ls rs c [] 0 rs
 | none=>(.skip,0,[])
def rF(p:Nat)(thr:Bool)(fn:Func)(ls:List AC):AF:=⟨p,Ah2 ty fn.results.toList,thr,(Anr ty gl lt ls (Acq fn.results.toList) fn.body).1,none⟩
def A1u(fn:Func)(ls:List AC):AC:=ixL (Anr ty gl lt ls (Acq fn.results.toList) fn.body).2.2 ls.length
end
attribute [go_sem] A0f Amh A1e D1 V7 Ahw A0g Ami Ann A1f Ayn A0h Agb A1g A1h A1i A1j Ayo A1k A1l A1m A1n A0i rMk A1o A1p A1q Ayp A0j A1r rOp Dl Ab7 Ahx Agc A1s uOp Acp bits Ahy Ahz Ano Anp rAI Aov Aow Ah0 A0k Amj Anq A1t Ah1 A0l Agd Pg N6 ixL Rx Ah2 Acq Anr rF A1u Nat.reduceShiftLeft Nat.reduceOr Nat.reduceAnd Nat.reduceXor Nat.reduceBEq Nat.reduceMod Nat.reduceDiv Nat.reduceSub
