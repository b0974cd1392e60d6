/- Effects in drawn regions, their checks done by themselves; lists. -/
import Derived.Test.YtphikjgngompaabGreatDoorA5
import Derived.Lib.SlicesCompact
import Derived.Test.YtphikjgngompaabGreatDoorProg
import Derived.WalkSpells
import Derived.WalkLawsBesides
import Derived.BigQuiet
import Derived.BigGuardPart
import Derived.Lib.Hide
import Derived.LoopTactic
import Derived.Laws.RangeAny
set_option linter.all false
namespace Go.Proofs.YtphikjgngompaabGreatDoor.KM
open Go
def AM{p:Prop}(h:p:=by assumption):p:=h
theorem rd1{s:St}{ob k off x:Nat}{cs:List V}{v:V}{e:Env}(q:s[ob]?=some (.row cs k 0 0))(he:e.get x=.ptr ob 0 off)(hc:cs[off]?=some v):Ad (.load 1 true (.t x)) e s=some (v,s):=by
 simp only[Ad,Ac,he,I4,q];have hl:=(Ao.1 hc).1
 rw[if_pos ⟨trivial,by omega⟩,show(cs.drop off).take 1=[v] by
  grind[List.drop_eq_getElem_cons]]
 rfl
def Ep{s:St}{ob off x:Nat}{v:V}{e:Env}(he:e.get x=.ptr ob 0 off)(h:∃ cs k,s[ob]?=some (.row cs k 0 0)/\cs[off]?=some v):Ad (.load 1 true (.t x)) e s=some (v,s):=by
 grind[rd1]
def Lc{s:St}{off x:Nat}{cs:List V}{v:V}{e:Env}(he:e.get x=.imm cs off)(hc:cs[off]?=some v):Ad (.load 1 true (.t x)) e s=some (v,s):=by
 simp only[Ad,Ac,he,I4]
 grind[List.drop_eq_getElem_cons,Hp]
def Er{s:St}{ob k x n:Nat}{cs:List V}{e:Env}(q:s[ob]?=some (.row cs k 0 0))(he:e.get x=.ptr ob 0 0)(hn:cs.length=n):Ad (.load n false (.t x)) e s=some (.agg cs,s):=by
 subst hn
 simp_all [Ad,Ac,I4,Hp]
def Qy{s:St}{x n:Nat}{cs:List V}{e:Env}(he:e.get x=.imm cs 0)(hn:cs.length=n):Ad (.load n false (.t x)) e s=some (.agg cs,s):=by
 subst hn
 simp_all [Ad,Ac,I4,Hp]
section
variable {T:Nat->Option AF} {pr:Nat->Option (List V->Option V)} {qa:List (List Nat)} {n m:Nat} {e:Env} {σ:St} {fs:Fs} {ls:Ls} {K:Env->St->Fs->Ls->Prop} {i:AI}
def Bb{v:V}{σ1:St}(h:K (e.putO i.dst v) σ1 ((m,σ,σ1)::fs) ls)(h1:Q1 qa n m fs:=by repeat (first | exact trivial | refine⟨.inl AK,?_⟩ | refine⟨by rfl,?_⟩ | refine⟨.inr ⟨by rfl,by rfl⟩,?_⟩ | refine⟨.inr ⟨by(first | exact Lc rfl rfl | exact Qy rfl AK | exact Ep rfl ⟨_,_,by assumption,by rfl⟩ | exact Ep rfl ⟨_,_,By AM,by rfl⟩ | exact Er AM rfl AK | exact Er (By AM) rfl AK),by(first | exact Lc rfl rfl | exact Qy rfl AK | exact Ep rfl ⟨_,_,by assumption,by rfl⟩ | exact Ep rfl ⟨_,_,By AM,by rfl⟩ | exact Er AM rfl AK | exact Er (By AM) rfl AK)⟩,?_⟩))(h2:Q2 qa n m σ σ1 ls:=by repeat (first | exact trivial | refine⟨.inl AK,?_⟩ | refine⟨by rfl,?_⟩ | refine⟨.inr ⟨by rfl,by rfl⟩,?_⟩ | refine⟨.inr ⟨by(first | exact Lc rfl rfl | exact Qy rfl AK | exact Ep rfl ⟨_,_,by assumption,by rfl⟩ | exact Ep rfl ⟨_,_,By AM,by rfl⟩ | exact Er AM rfl AK | exact Er (By AM) rfl AK),by(first | exact Lc rfl rfl | exact Qy rfl AK | exact Ep rfl ⟨_,_,by assumption,by rfl⟩ | exact Ep rfl ⟨_,_,By AM,by rfl⟩ | exact Er AM rfl AK | exact Er (By AM) rfl AK)⟩,?_⟩)):Mu qa n m i .ef v σ1 e σ fs ls K:=⟨h1,h2,h⟩
def wgR{v:V}{σ1:St}(h:K (e.putO i.dst v) σ fs ((m,fun s=>Ad i.op e s=some (v,s))::ls))(h1:Y4 qa n m (fun s=>Ad i.op e s=some (v,s)) fs:=by repeat (first | exact trivial | refine⟨.inl AK,?_⟩ | refine⟨by rfl,?_⟩ | refine⟨.inr ⟨by rfl,by rfl⟩,?_⟩ | refine⟨.inr ⟨by(first | exact Lc rfl rfl | exact Qy rfl AK | exact Ep rfl ⟨_,_,by assumption,by rfl⟩ | exact Ep rfl ⟨_,_,By AM,by rfl⟩ | exact Er AM rfl AK | exact Er (By AM) rfl AK),by(first | exact Lc rfl rfl | exact Qy rfl AK | exact Ep rfl ⟨_,_,by assumption,by rfl⟩ | exact Ep rfl ⟨_,_,By AM,by rfl⟩ | exact Er AM rfl AK | exact Er (By AM) rfl AK)⟩,?_⟩)):Mu qa n m i .rd v σ1 e σ fs ls K:=⟨h1,h⟩
def Ia{f:Nat}{vs:List V}{v:V}{σ1:St}(hf:Bw T pr f vs σ v σ1)(h:K (e.putO i.dst v) σ1 ((m,σ,σ1)::fs) ls)(h1:Q1 qa n m fs:=by repeat (first | exact trivial | refine⟨.inl AK,?_⟩ | refine⟨by rfl,?_⟩ | refine⟨.inr ⟨by rfl,by rfl⟩,?_⟩ | refine⟨.inr ⟨by(first | exact Lc rfl rfl | exact Qy rfl AK | exact Ep rfl ⟨_,_,by assumption,by rfl⟩ | exact Ep rfl ⟨_,_,By AM,by rfl⟩ | exact Er AM rfl AK | exact Er (By AM) rfl AK),by(first | exact Lc rfl rfl | exact Qy rfl AK | exact Ep rfl ⟨_,_,by assumption,by rfl⟩ | exact Ep rfl ⟨_,_,By AM,by rfl⟩ | exact Er AM rfl AK | exact Er (By AM) rfl AK)⟩,?_⟩))(h2:Q2 qa n m σ σ1 ls:=by repeat (first | exact trivial | refine⟨.inl AK,?_⟩ | refine⟨by rfl,?_⟩ | refine⟨.inr ⟨by rfl,by rfl⟩,?_⟩ | refine⟨.inr ⟨by(first | exact Lc rfl rfl | exact Qy rfl AK | exact Ep rfl ⟨_,_,by assumption,by rfl⟩ | exact Ep rfl ⟨_,_,By AM,by rfl⟩ | exact Er AM rfl AK | exact Er (By AM) rfl AK),by(first | exact Lc rfl rfl | exact Qy rfl AK | exact Ep rfl ⟨_,_,by assumption,by rfl⟩ | exact Ep rfl ⟨_,_,By AM,by rfl⟩ | exact Er AM rfl AK | exact Er (By AM) rfl AK)⟩,?_⟩)):Hu T pr qa n m i (.call f vs) e σ fs ls K:=.inr (.inr ⟨v,σ1,.any hf,h1,h2,h⟩)
end
section
variable {κ:Type} [DecidableEq κ]
def Jv:List κ->κ->Option Nat
 | [],_=>none
 | x::l,k=>if x=k then some 0 else(Jv l k).map (·+1)
theorem U6:∀ {l:List κ} {k:κ} {s:Nat},Jv l k=some s↔l[s]?=some k/\∀ j,j<s->l[j]?≠some k
 | [],k,s=>by simp[Jv]
 | x::l,k,s=>by
  rw[Jv];by_cases h:x=k
  .rw[if_pos h];constructor
   .grind
   .rintro⟨-,h2⟩
    cases s with
    | zero=>rfl
    | succ s=>exact absurd (by simp[h]) (h2 0 (Nat.succ_pos s))
  .rw[if_neg h]
   cases s with
   | zero=>
    simp_all
   | succ s=>
    constructor
    .intro e
     have e2:Jv l k=some s:=by
      cases hs:Jv l k with
      | none=>grind
      | some a=>grind
     obtain⟨h1,h2⟩:=U6.1 e2
     grind
    .rintro⟨h1,h2⟩;have:Jv l k=some s:=U6.2 ⟨by grind,fun j hj=>by grind⟩
     grind
theorem A3x{l:List κ}{k:κ}:Jv l k=none↔∀ j:Nat,l[j]?≠some k:=by
 constructor
 .intro h j hj
  induction l generalizing j with
  | nil=>grind
  | cons x l ih=>
   rw[Jv]at h
   split at h
   .cases h
   .rename_i hx
    cases j with
    | zero=>grind
    | succ j=>simp_all
 .intro h
  cases hs:Jv l k with
  | none=>rfl
  | some s=>grind[U6]
end
section
variable {κ:Type} [DecidableEq κ]
def Ih(ks:List κ)(m:List Int)(k:κ):Option Nat:=match Jv ks k with
 | some s=>if m.getD s (-1)<0 then none else some (m.getD s (-1)).toNat
 | none=>none
def Ga(ks:List κ)(m:List Int):List κ->Option (List Nat)
 | []=>some []
 | k::l=>match Ih ks m k with
  | some n=>(Ga ks m l).map (n::·)
  | none=>none
def Adq{ks:List κ}{m:List Int}:∀ {l:List κ},Ga ks m l=none↔∃ k∈l,Ih ks m k=none
 | []=>by simp[Ga]
 | k::l=>by
  rw[Ga]
  cases h:Ih ks m k with
  | none=>simp[h]
  | some n=>
   simp only[Bp];constructor
   .intro e;have:Ga ks m l=none:=by simpa using e
    obtain⟨k',h1,h2⟩:=Adq.1 this
    grind
   .rintro⟨k',h1 | h1,h2⟩
    .grind
    .have:=Adq.2 ⟨k',h1,h2⟩
     grind
theorem Adx{ks:List κ}{m:List Int}:∀ {l:List κ} {r:List Nat},Ga ks m l=some r->r.length=l.length
 | [],r,h=>by grind[Ga]
 | k::l,r,h=>by
  rw[Ga]at h
  cases h1:Ih ks m k with
  | none=>grind
  | some n=>
   rw[h1]at h
   cases h2:Ga ks m l with
   | none=>grind
   | some r'=>
    rw[h2]at h;simp at h;rw[<-h,An,An,Adx h2]
end
inductive TD where
 | i (k:IntKind) | s | b | it | f | sl (e:Nat) | pt (e:Nat) | ar (n e:Nat) | st (fs:List (Nat × Nat)) | mp (v:Nat)
structure TyR where
 d:TD
 z:List V
 n:Nat
 one:Bool
 by':Nat
 pl:Bool
section
variable (ty:Nat->TyR) (gl:Nat->V) (lt:Nat->Nat)
def A0e:Value->V
 | .bool b=>.bool b
 | .int k n=>.int k n
 | .string s=>.str s.data.toList
 | .pointer _=>.nilp
 | .slice _ _ _=>.nils
 | .nilFunc=>.nilf
 | .nilIface=>.nili
 | _=>.und
def Ami:List Value->List V
 | []=>[]
 | v::l=>A0e v::Ami l
def A1e:Value->V
 | .agg cs=>.agg (Ami cs.toList)
 | .bool b=>.bool b
 | .int k n=>.int k n
 | .string s=>.str s.data.toList
 | .pointer _=>.nilp
 | .slice _ _ _=>.nils
 | .nilFunc=>.nilf
 | .nilIface=>.nili
 | _=>.und
def Dz:Operand->S
 | .tmp t=>.t t
 | .const v=>.k (A1e v)
 | .func f=>.k (.fn f [] [])
 | .global g=>.k (gl g)
def V4:List Operand->List S
 | []=>[]
 | x::l=>Dz gl x::V4 l
def Ahp:Option Operand->Option S
 | none=>none
 | some x=>some (Dz gl x)
def A0f:TD->Nat->S->Nat × Nat × S
 | .st fs,i,s=>match fs[i]? with
  | some (o,t)=>(o,(ty t).n,s)
  | none=>(0,0,s)
 | .ar _ e,i,s=>(i*(ty e).n,(ty e).n,s)
 | _,_,s=>(0,0,s)
def Amj(d:TD):List (Nat × Operand)->List (Nat × Nat × S)
 | []=>[]
 | (i,x)::l=>A0f ty d i (Dz gl x)::Amj d l
def Anl:List (Nat × Operand)->List (Nat × S)
 | []=>[]
 | (i,x)::l=>(i,Dz gl x)::Anl l
def A1f:Nat->Bool->Nat->TyR->Nat->List (Nat × S)->AO
 | 0,true,_,y,n,ps=>.rows n y.z ps
 | 0,false,_,y,n,ps=>.rowf n y.z ps
 | 1,_,_,y,n,ps=>.rows n y.z ps
 | 2,_,e,y,n,ps=>.rowo e n y.z ps
 | _,_,_,y,n,ps=>.rowf n y.z ps
def Aym:TD->Nat->List (Nat × S)->AO
 | .sl e,n,ps=>A1f (lt e) (ty e).pl e (ty e) n ps
 | _,_,_=>.mmk
def A0g:V->Nat
 | .bool _=>0
 | .str _=>2
 | _=>1
def Af2:List V->List Nat
 | []=>[]
 | x::l=>A0g x::Af2 l
def A1g(z:List V):TD->Option EqK
 | .b=>some .bool
 | .sl _=>some .nilsl
 | .pt _=>some .nilpt
 | .f=>some .nilfn
 | .it=>some .nilif
 | .st _=>some (.flat (Af2 z))
 | .ar _ _=>some (.flat (Af2 z))
 | _=>none
def A1h:BinOp->Option EqK->S->S->AO
 | .eql,some k,x,y=>.eq k false x y
 | .neq,some k,x,y=>.eq k true x y
 | b,_,x,y=>.bin b x y
def A1i:TD->TD->S->AO
 | .i _,.i k,x=>.cvi k x
 | _,_,x=>.mov x
def A1j:TD->S->Option S->Option S->Option S->AO
 | .s,x,l,h,_=>.slcs x l h
 | .sl e,x,l,h,m=>.slc (ty e).n x l h m
 | .ar n e,x,l,h,_=>.slca n (ty e).n x l h
 | _,x,_,_,_=>.mov x
def Ayn:TD->TD
 | .pt e=>(ty e).d
 | .s=>.s
 | .sl e=>.sl e
 | .ar n e=>.ar n e
 | d=>d
def A1k:TD->Nat->S->AO
 | .st fs,i,x=>match fs[i]? with
  | some (o,_)=>.fad o x
  | none=>.mov x
 | _,_,x=>.mov x
def A1l:TD->Nat->S->AO
 | .st fs,i,x=>match fs[i]? with
  | some (o,t)=>.fld o (ty t).n (ty t).one x
  | none=>.mov x
 | _,_,x=>.mov x
def A1m:TD->S->S->AO
 | .sl e,x,i=>.iad (ty e).n x i
 | .ar n e,x,i=>.iar n (ty e).n x i
 | _,x,_=>.mov x
def A1n:TD->S->S->AO
 | .ar n e,x,i=>.ida n (ty e).n (ty e).one x i
 | .s,x,i=>.idx x i
 | _,x,_=>.mov x
def A0h:TD->S->S->AO
 | .mp e,x,i=>match (ty e).z with
  | [z]=>.mlk z x i
  | _=>.mmk
 | _,x,_=>.mov x
def rMk:TD->S->S->AO
 | .sl e,x,y=>.mk e (ty e).by' (ty e).z x y
 | _,x,_=>.mov x
def A1o:TD->S->AO
 | _,x=>.mov x
def A1p:TD->S->AO
 | .s,x=>.lens x
 | .sl _,x=>.len x
 | _,x=>.mov x
def A1q:TD->TD->S->S->AO
 | .sl e,.s,x,y=>.apps e x y
 | .sl e,.sl _,x,y=>.app (ty e).by' ((ty e).n,e) x y
 | _,_,x,_=>.mov x
def Ayo:Builtin->List S->List Nat->AO
 | .len,[x],[t]=>A1p (ty t).d x
 | .append,[x,y],[t,u]=>A1q ty (ty t).d (ty u).d x y
 | .max,[x,y],_=>.mx x y
 | .min,[x,y],_=>.mn x y
 | _,_,_=>.mmk
def A0i:Callee->List Operand->List Nat->AO
 | .value (.func f),xs,_=>.call f (V4 gl xs)
 | .value (.tmp t),xs,_=>.callv (.t t) (V4 gl xs)
 | .builtin b,xs,ts=>Ayo ty b (V4 gl xs) ts
 | _,_,_=>.mmk
def A1r:Go.Fn->List S->List S->AO
 | _,_,_=>.mmk
def rOp:Op->AO
 | .move x=>.mov (Dz gl x)
 | .assign x=>.mov (Dz gl x)
 | .pick c a b=>.pick (Dz gl c) (Dz gl a) (Dz gl b)
 | .alloc t=>.new t (ty t).z
 | .box t x=>.box t (Dz gl x)
 | .build t ps=>.build (ty t).z (Amj ty gl (ty t).d ps.toList)
 | .buildSlice t n ps=>Aym ty lt (ty t).d n (Anl gl ps.toList)
 | .load t x=>.load (ty t).n (ty t).one (Dz gl x)
 | .store t x v=>.store (ty t).n (Dz gl x) (Dz gl v)
 | .nilCheck x=>.chk (Dz gl x)
 | .binOp b t x y _=>A1h b (A1g (ty t).z (ty t).d) (Dz gl x) (Dz gl y)
 | .unOp u _ x=>.un u (Dz gl x)
 | .convert s d x=>A1i (ty s).d (ty d).d (Dz gl x)
 | .sliceToArrayPointer t x=>A1o (ty t).d (Dz gl x)
 | .makeFunc f a c=>A1r f (V4 gl a.toList) (V4 gl c.toList)
 | .makeMap _ _=>.mmk
 | .makeSlice t x y=>rMk ty (ty t).d (Dz gl x) (Dz gl y)
 | .slice t x l h m=>A1j ty (Ayn ty (ty t).d) (Dz gl x) (Ahp gl l) (Ahp gl h) (Ahp gl m)
 | .fieldAddr t x i=>A1k (ty t).d i (Dz gl x)
 | .field t x i=>A1l ty (ty t).d i (Dz gl x)
 | .indexAddr t x i=>A1m ty (ty t).d (Dz gl x) (Dz gl i)
 | .index t x i=>A1n ty (ty t).d (Dz gl x) (Dz gl i)
 | .lookup t x i _=>A0h ty (ty t).d (Dz gl x) (Dz gl i)
 | .mapUpdate _ x k v=>.mup (Dz gl x) (Dz gl k) (Dz gl v)
 | .extract x i=>.ext i (Dz gl x)
 | .call c=>A0i ty gl c.callee c.args.toList c.argTypes.toList
 | _=>.mmk
/-! sets of slots -/
def Dk:Operand->Nat
 | .tmp t=>1 <<< t
 | .const _=>0
 | .func _=>0
 | .global _=>0
def Abw:List Operand->Nat
 | []=>0
 | x::l=>Dk x ||| Abw l
def Ahq:Option Operand->Nat
 | none=>0
 | some x=>Dk x
def Af3:List (Nat × Operand)->Nat
 | []=>0
 | (_,x)::l=>Dk x ||| Af3 l
def A1s:Callee->Nat
 | .value f=>Dk f
 | .invoke r _=>Dk r
 | .builtin _=>0
def uOp:Op->Nat
 | .move x=>Dk x
 | .assign x=>Dk x
 | .pick c a b=>Dk c ||| Dk a ||| Dk b
 | .alloc _=>0
 | .box _ x=>Dk x
 | .build _ ps=>Af3 ps.toList
 | .buildSlice _ _ ps=>Af3 ps.toList
 | .load _ x=>Dk x
 | .store _ x v=>Dk x ||| Dk v
 | .nilCheck x=>Dk x
 | .binOp _ _ x y _=>Dk x ||| Dk y
 | .unOp _ _ x=>Dk x
 | .convert _ _ x=>Dk x
 | .sliceToArrayPointer _ x=>Dk x
 | .makeFunc _ a c=>Abw a.toList ||| Abw c.toList
 | .makeMap _ _=>0
 | .makeSlice _ x y=>Dk x ||| Dk y
 | .slice _ x l h m=>Dk x ||| Ahq l ||| Ahq h ||| Ahq m
 | .fieldAddr _ x _=>Dk x
 | .field _ x _=>Dk x
 | .indexAddr _ x i=>Dk x ||| Dk i
 | .index _ x i=>Dk x ||| Dk i
 | .lookup _ x i _=>Dk x ||| Dk i
 | .mapUpdate _ x k v=>Dk x ||| Dk k ||| Dk v
 | .extract x _=>Dk x
 | .call c=>A1s c.callee ||| Abw c.args.toList
 | _=>0
def Acd:Nat->Nat->Nat->List Nat
 | 0,_,_=>[]
 | f+1,i,m=>match m==0 with
  | true=>[]
  | false=>match m % 256==0 with
   | true=>Acd f (i+8) (m / 256)
   | false=>match m % 2==0 with
    | true=>Acd f (i+1) (m / 2)
    | false=>i::Acd f (i+1) (m / 2)
def bits(m:Nat):List Nat:=Acd 800 0 m
def Ahr(a b:Nat):Nat:=a ^^^ (a &&& b)
def Ahs(all:List Oper):Option (Nat × Bool)->Option (Nat × Bool)
 | none=>none
 | some (j,w)=>match all[j]? with
  | some r=>match r.dst with
   | some d=>some (d,w)
   | none=>none
  | none=>none
def Anm:Option (Nat × Bool)->Nat
 | none=>0
 | some (t,_)=>1 <<< t
def Ann:Option Nat->Nat
 | none=>0
 | some t=>1 <<< t
def rAI:Option Nat->Option (Nat × Bool)->AO->AI
 | some d,none,a=>o d a
 | none,none,a=>on a
 | some d,some (t,w),a=>og d a t w
 | none,some (t,w),a=>oh a t w
def Aot(all:List Oper):List Oper->List AI
 | []=>[]
 | r::l=>rAI r.dst (Ahs all r.guard) (rOp ty gl lt r.op)::Aot all l
def Aou(all:List Oper):List Oper->Nat
 | []=>0
 | r::l=>uOp r.op ||| Anm (Ahs all r.guard) ||| Ann r.dst ||| Aou all l
def Aht(all:List Oper)(out:Nat):List Oper->Nat
 | []=>out
 | r::l=>Ahr (Aht all out l) (Ann r.dst) ||| uOp r.op ||| Anm (Ahs all r.guard)
def A0j:Ground->Nat->Nat
 | .textOnly _,_=>0
 | .gcOnly _,_=>0
 | .data,n=>1 <<< n
 | .chain,n=>1 <<< n
 | .guard,n=>1 <<< n
 | .phase,n=>1 <<< n
def Amk:List Edge->Nat
 | []=>0
 | e::l=>A0j e.ground e.on ||| Amk l
def Ano:List Oper->List (List Nat)
 | []=>[]
 | r::l=>bits (Amk r.after.toList)::Ano l
def A1t:Bool->List Nat->List Oper->List AI->AC
 | true,kill,os,l=>.drw kill (Ano os) l
 | false,kill,_,l=>.reg kill l
def Ahu:List (Nat × Nat)->Nat->Nat
 | [],_=>0
 | (i,m)::l,j=>match i==j with
  | true=>m
  | false=>Ahu l j
def Pi:Code->Nat
 | .seq a b=>Pi a+Pi b
 | .cond _ a b=>Pi a+Pi b
 | .block _ c=>Pi c
 | .scope c=>Pi c
 | .loop c=>Pi c+1
 | _=>0
def A0k:Op->Bool
 | .makeInterface _ _=>true
 | .panic _=>true
 | _=>false
def Af4:List Oper->Bool
 | []=>false
 | r::l=>match A0k r.op with
  | true=>true
  | false=>Af4 l
def Ok(rs:Nat):Code->List (Nat × Nat)->Nat->Nat
 | .skip,_,out=>out
 | .label _,_,out=>out
 | .ret,_,_=>rs
 | .exit i,ex,_=>Ahu ex i
 | .seq a b,ex,out=>Ok rs a ex (Ok rs b ex out)
 | .cond c a b,ex,out=>Dk c ||| Ok rs a ex out ||| Ok rs b ex out
 | .block i c,ex,out=>Ok rs c ((i,out)::ex) out
 | .scope c,ex,out=>Ok rs c ex out
 | .loop c,ex,_=>
  let h1:=Ok rs c ex 0
  let h2:=h1 ||| Ok rs c ex h1
  let h3:=h2 ||| Ok rs c ex h2
  h3 ||| Ok rs c ex h3
 | .region _ ops _,_,out=>match Af4 ops.toList with
  | true=>0
  | false=>Aht ops.toList out ops.toList
 | _,_,_=>0
def ixL:List AC->Nat->AC
 | [],_=>.skip
 | c::l,i=>match i==0 with
  | true=>c
  | false=>ixL l (i - 1)
def Rx(ls:List AC)(rs:Nat):Code->List (Nat × Nat)->Nat->Nat->AC × Nat × List AC
 | .skip,_,_,out=>(.skip,out,[])
 | .label _,_,_,out=>(.skip,out,[])
 | .ret,_,_,_=>(.ret,rs,[])
 | .exit i,ex,_,_=>(.exit i,Ahu ex i,[])
 | .seq a b,ex,n,out=>
  let y:=Rx ls rs b ex (n+Pi a) out
  let x:=Rx ls rs a ex n y.2.1
  (.seq x.1 y.1,x.2.1,x.2.2++y.2.2)
 | .cond c a b,ex,n,out=>
  let x:=Rx ls rs a ex n out
  let y:=Rx ls rs b ex (n+Pi a) out
  (.cond (Dz gl c) (bits (Ahr (Dk c) (x.2.1 ||| y.2.1))) x.1 y.1,Dk c ||| x.2.1 ||| y.2.1,x.2.2++y.2.2)
 | .block i c,ex,n,out=>
  let x:=Rx ls rs c ((i,out)::ex) n out
  (.blk i x.1,x.2.1,x.2.2)
 | .scope c,ex,n,out=>
  let x:=Rx ls rs c ex n out
  (.blk 1000000 x.1,x.2.1,x.2.2)
 | .loop c,ex,n,out=>
  let h:=Ok rs (.loop c) ex out
  let x:=Rx ls rs c ex n h
  (.loop (bits h) (ixL ls (n+Pi c)),h,x.2.2++[x.1])
 | .region _ ops d,_,_,out=>match Af4 ops.toList with
  | true=>(.cond (.k .und) [] .skip .skip,0,[])
  | false=>(A1t d (bits (Ahr (Aou ops.toList ops.toList) out)) ops.toList (Aot ty gl lt ops.toList ops.toList),Aht ops.toList out ops.toList,[])
 | _,_,_,_=>(.skip,0,[])
def Ahv:List ResultVar->List AR
 | []=>[]
 | .tmp t::l=>.tmp t::Ahv l
 | .cell t y::l=>.cell t (ty y).n (ty y).one::Ahv l
def Ace:List ResultVar->Nat
 | []=>0
 | .tmp t::l=>1 <<< t ||| Ace l
 | .cell t _::l=>1 <<< t ||| Ace l
def Anp(ls:List AC)(rs:Nat):Option Code->AC × Nat × List AC
 | some c=>Rx ty gl lt ls rs c [] 0 rs
 | none=>(.skip,0,[])
def rF(p:Nat)(thr:Bool)(fn:Func)(ls:List AC):AF:=⟨p,Ahv ty fn.results.toList,thr,(Anp ty gl lt ls (Ace fn.results.toList) fn.body).1,none⟩
def A1u(fn:Func)(ls:List AC):AC:=ixL (Anp ty gl lt ls (Ace fn.results.toList) fn.body).2.2 ls.length
end
attribute [go_sem] A0e Ami A1e Dz V4 Ahp A0f Amj Anl A1f Aym A0g Af2 A1g A1h A1i A1j Ayn A1k A1l A1m A1n A0h rMk A1o A1p A1q Ayo A0i A1r rOp Dk Abw Ahq Af3 A1s uOp Acd bits Ahr Ahs Anm Ann rAI Aot Aou Aht A0j Amk Ano A1t Ahu A0k Af4 Pi Ok ixL Rx Ahv Ace Anp rF A1u Nat.reduceShiftLeft Nat.reduceOr Nat.reduceAnd Nat.reduceXor Nat.reduceBEq Nat.reduceMod Nat.reduceDiv Nat.reduceSub
def Df(l:List Int):List V:=l.map fun x=>.int .i64 x
def Acf(R:List (List Int)):V:=.lst 0 (R.map fun r=>[.lst 0 (r.map fun x=>[.int .i64 x])])
def R9(L:List (Nat × List Int)):List V:=L.map fun p=>.sl p.1 0 0 p.2.length 1 true
def Arm(l:List Int):Df l=(l.map fun x=>[V.int .i64 x]).flatten:=by
 induction l with
 | nil=>rfl
 | cons a l ih=>rw[Aw,Fd,<-ih];rfl
def Atf:∀ l:List V,Fg 1 l.length l=l.map fun x=>[x]
 | []=>rfl
 | a::l=>by rw[An,Fg,Aw,Aig,Jf,Atf l];rfl
def Apx{σ:St}{js:List Nat}{d:Nat}:∀ {L:List (Nat × List Int)},(∀ p∈L,∃ e z,σ[p.1]?=some (.row (Df p.2) e 0 z))->(∀ p∈L,p.1∈js) ->
  (R9 L).mapM (Fe σ js (d+2))=some (L.map fun p=>.lst 0 (p.2.map fun x=>[V.int .i64 x]))
 | [],_,_=>rfl
 | p::L,h,hj=>by
  have ih:=Apx (d:=d) (fun q hq=>h q (Cb _ hq)) fun q hq=>hj q (Cb _ hq)
  obtain⟨e,z,ho⟩:=h p B4;have hp:=hj p B4;have h1:=Rw (xs:=p.2.map fun x=>[V.int .i64 x]) (w:=true) (m:=1) (by rw[<-Arm];exact ho) AA (fun r hr=>by grind) (fun r hr=>by obtain⟨x,-,rfl⟩:=Cs.1 hr;rfl);have h2:=h1 js (fun i hi=>by grind[V.refs]) d
  grind[R9]
def A3y{σ:St}{o e z:Nat}{js:List Nat}{d:Nat}{L:List (Nat × List Int)}(ho:σ[o]?=some (.row (R9 L) e 0 z))(h:∀ p∈L,∃ e z,σ[p.1]?=some (.row (Df p.2) e 0 z))(hj:∀ p∈L,p.1∈js)(jf:o∈js):
  Fe σ js (d+3) (.sl o 0 0 L.length 1 true)=some (Acf (L.map fun p=>p.2)):=by
 have hl:(R9 L).length=L.length:=by unfold R9;rw[Ar]
 have he:js.elem o=true:=by simpa using jf
 unfold Fe;rw[if_neg AN];simp only[he,if_true,ho];rw[if_pos ⟨trivial,by omega,by omega⟩,Jf,Zr,<-hl,Dq,Apx h hj,Ir];unfold Acf;have qi:(R9 L).length=(L.map fun p=>V.lst 0 (p.2.map fun x=>[V.int .i64 x])).length:=by rw[hl,Ar]
 rw[qi,Atf,Q9,Q9];rfl
def Atg{R:List (List Int)}{i:Nat}{r:List Int}(h:R[i]?=some r):(R.map fun r=>[V.lst 0 (r.map fun x=>[V.int .i64 x])])[i]?=some [.lst 0 (r.map fun x=>[.int .i64 x])]:=by
 grind
def A0l{r:List Int}{j:Nat}{x:Int}(h:r[j]?=some x):(r.map fun x=>[V.int .i64 x])[j]?=some [.int .i64 x]:=by
 grind
def A8v{r:List Int}{j:Nat}{x:Int}(h:r[j]?=some x):(Df r)[j]?=some (.int .i64 x):=by
 grind[Df]
theorem A8w(r:List Int)(j:Nat)(x:Int):(Df r).set j (.int .i64 x)=Df (r.set j x):=by
 grind[Df,List.map_set]
def Akh(n:Nat):List.replicate n (V.int .i64 0)=Df (List.replicate n 0):=by
 grind[Df,List.map_replicate]
def Bjm{T:Nat->Option AF}{pr:Nat->Option (List V->Option V)}{f p:Nat}{res:List AR}{body:AC}{vs:List V}{R:List (List Int)}(hT:T f=some ⟨p,res,false,body,none⟩)(hl:vs.length=p)
  (h:W T pr [.c body] (C4 0 vs) [] (Hd fun e' σ1=>∃ (o e z:Nat) (L:List (Nat × List Int)),Cd e' σ1 res=some (.sl o 0 0 L.length 1 true)/\σ1[o]?=some (.row (R9 L) e 0 z)/\(∀ p∈L,∃ e z,σ1[p.1]?=some (.row (Df p.2) e 0 z))/\(L.map fun p=>p.2)=R)):Fn T pr f vs (Acf R):=by
 obtain⟨e',σ1,hE,o,e,z,L,hr,ho,hL,rfl⟩:=h;refine Arf hT rfl rfl hl ⟨e',σ1,hE,.sl o 0 0 L.length 1 true,o::L.map fun p=>p.1,hr,rfl,?_,rfl,rfl⟩;exact A3y (d:=6) ho hL (fun p hp=>Cb _ (Cs.2 ⟨p,hp,rfl⟩)) B4
open Go Go.RowKit
def kwL:List (List UInt8):=[[118,97,114],[118,111,108,97,116,105,108,101],[109,117,116,101,120],[114,119,108,111,99,107],[99,111,110,100],[102,117,116,117,114,101],[116,104,114,101,97,100],[105,102],[101,108,115,101],[119,104,105,108,101],[108,111,99,107],[114,101,97,100],[119,114,105,116,101],[116,114,97,110,115,97,99,116,105,111,110],[97,116,111,109,105,99],[119,97,105,116],[110,111,116,105,102,121],[110,111,116,105,102,121,97,108,108],[115,112,97,119,110],[106,111,105,110],[115,101,116],[103,101,116]]
def gKw:List V:=kwL.map V.str
def Gk(l:List UInt8):Bool:=kwL.any fun k=>l==k
def K6(n:Nat):Bool:=(decide (97<=n)&&decide (n<=122))||(decide (65<=n)&&decide (n<=90))
def Ms(n:Nat):Bool:=decide (48<=n)&&decide (n<=57)
def Lw(n:Nat):Bool:=K6 n||(Ms n||n==95)
def Jd(l:List UInt8)(j:Nat):Bool:=K6 (l.getD j 0).toNat||(decide (0<j)&&((l.getD j 0).toNat==95||Ms (l.getD j 0).toNat))
def Bm(l:List UInt8):Bool:=decide (1<=l.length)&&(decide (l.length<=12)&&(!Gk l&&(List.range l.length).all (Jd l)))
def Ag6:List V->Option V
 | [.str l]=>some (.bool (Bm l))
 | _=>none
def kwS:List V->Option V
 | [.str l]=>some (.bool (Gk l))
 | _=>none
theorem Awd{l:List UInt8}(h:l.length<1):Bm l=false:=by
 grind[Bm]
theorem Awe{l:List UInt8}(h:12<l.length):Bm l=false:=by
 grind[Bm]
def Awf{l:List UInt8}(h:Gk l=true):Bm l=false:=by
 grind[Bm]
def Bdu{l:List UInt8}{j:Nat}(hj:j<l.length)(h:Jd l j=false):Bm l=false:=by
 unfold Bm
 grind
def Aml{l:List UInt8}(h1:1<=l.length)(h2:l.length<=12)(h3:Gk l=false)(h4:∀ j,j<l.length->Jd l j=true):Bm l=true:=by
 grind[Bm]
def Z8{a b:Bool}(h:a=b):Ending.returned (.bool a)=.returned (.bool b):=by rw[h]
def Awg(s:ByteArray)(i:Nat)(h:i<s.size):s[i]=s.data.toList.getD i 0:=by
 simp_all [ByteArray.getElem_eq_getElem_data]
def Aov(d:Int)(qc:Nat):Prop:=(97<=d/\d<=122)\/(65<=d/\d<=90)\/(0<qc/\(d=95\/(48<=d/\d<=57)))
def Awh(l:List UInt8)(j:Nat):Jd l j=true↔Aov ((l.getD j 0).toNat:Int) j:=by
 unfold Jd K6 Ms Aov
 grind
def A8x(s:ByteArray){qc:Nat}(hp:qc<s.size)(h:(97<=((Utf8.decode s qc).1:Int)/\((Utf8.decode s qc).1:Int)<=122)\/(65<=((Utf8.decode s qc).1:Int)/\((Utf8.decode s qc).1:Int)<=90)\/(0<qc/\(((Utf8.decode s qc).1:Int)=95\/(48<=((Utf8.decode s qc).1:Int)/\((Utf8.decode s qc).1:Int)<=57)))):
  (Utf8.decode s qc).2=1/\Jd s.data.toList qc=true:=by
 by_cases ha:(s[qc]'hp).toNat<128
 .rw[decode_ascii s qc hp ha]at h ⊢;refine⟨rfl,(Awh _ _).2 ?_⟩;rw[<-Awg s qc hp];exact h
 grind[decode_high]
def Bdv(s:ByteArray){qc:Nat}(hp:qc<s.size)(h:¬ ((97<=((Utf8.decode s qc).1:Int)/\((Utf8.decode s qc).1:Int)<=122)\/(65<=((Utf8.decode s qc).1:Int)/\((Utf8.decode s qc).1:Int)<=90)\/(0<qc/\(((Utf8.decode s qc).1:Int)=95\/(48<=((Utf8.decode s qc).1:Int)/\((Utf8.decode s qc).1:Int)<=57))))):
  Jd s.data.toList qc=false:=by
 rw[<-Wz,Awh,<-Awg s qc hp]
 grind[decode_ascii,Aov]
set_option maxHeartbeats 800000 in
def A5p(s:ByteArray)(w:World)(qx:Calls Tryz.prog 135 #[.string s] w fun e w'=>e=.returned (.bool (Gk s.data.toList))/\Below w.heap.size w w'):
  Calls Tryz.prog 87 #[.string s] w fun e w'=>e=.returned (.bool (Bm s.data.toList))/\Below w.heap.size w w':=by
 have jl:s.data.toList.length=s.size:=rfl;by_cases c1:s.size<1
 .have d1:decide ((s.size:Int)<1)=true:=by simp;omega
  have HN:=Lib.hid (Awd (l:=s.data.toList) AA)
  go_enter Tryz.func87,Tryz.ntmps87
  go_wp2_with fail
  go_ret
  exact⟨Z8 HN.out.symm,Below.refl _ _⟩
 have d1:decide ((s.size:Int)<1)=false:=by simp;omega
 by_cases c2:12<s.size
 .have d2:decide ((12:Int)<(s.size:Int))=true:=by simp;omega
  have HN:=Lib.hid (Awe (l:=s.data.toList) AA)
  go_enter Tryz.func87,Tryz.ntmps87
  go_wp2_with fail
  go_ret
  exact⟨Z8 HN.out.symm,Below.refl _ _⟩
 have d2:decide ((12:Int)<(s.size:Int))=false:=by simp;omega
 cases c4:Gk s.data.toList;rotate_left
 .have HN:=Lib.hid (Awf c4);rw[c4]at qx
  go_enter Tryz.func87,Tryz.ntmps87
  go_wp2_with (go_at_call 135;refine qx.mono ?_;rintro e w1 ⟨rfl,qq⟩)
  go_ret
  exact⟨Z8 HN.out.symm,qq⟩
 .have HY:=Lib.hid (fun h5=>Aml (l:=s.data.toList) AA AA c4 h5);rw[c4]at qx
  go_enter Tryz.func87,Tryz.ntmps87
  go_wp2_with (go_at_call 135;refine qx.mono ?_;rintro e w1 ⟨rfl,qq⟩)
  go_loopw [] (fun w'=>∃ qc:Nat,w'=w1.iter s qc/\∀ j,j<qc->Jd s.data.toList j=true) (fun w'=>s.size - w'.iterPos w1.heap.size)
  case atStart=>grind
  case round=>
   obtain⟨qc,rfl,qP⟩:=hrel;have HN:=Lib.hid qP;clear qP;by_cases hp:qc<s.size
   .have je:∀ ty,(Instr.next (.pointer (some ⟨w1.heap.size,0,none⟩)) true ty).run Tryz.prog (w1.iter s qc)=_:=fun ty=>run_next_any w1 s qc ty hp
    go_wp2_with fail
    all_goals first
     | (go_ret
        exact⟨Z8 (Bdu hp (Bdv s hp AA)).symm,qq.alloc qq.size _⟩)
     | (have hg:=A8x s hp AA
        go_roundw
        case rel=>
         refine⟨qc+(Utf8.decode s qc).2,rfl,fun j hj=>?_⟩;by_cases e:j=qc
         .grind
         .exact HN.out j AA
        case measure=>
         simp
         omega)
   .have je:∀ ty,(Instr.next (.pointer (some ⟨w1.heap.size,0,none⟩)) true ty).run Tryz.prog (w1.iter s qc)=_:=fun ty=>run_next_end w1 s qc ty hp
    go_wp2_with fail
    go_ret
    exact⟨Z8 (HY.out fun j hj=>HN.out j AA).symm,qq.alloc qq.size _⟩
section
variable {α:Type} [DecidableEq α]
def E9:List α->List α->Nat
 | [],_=>0
 | _::_,[]=>0
 | a::s,b::t=>if a=b then 1+E9 s t else max (E9 s (b::t)) (E9 (a::s) t)
theorem Vu(t:List α):E9 [] t=0:=by rw[E9]
theorem Abf(s:List α):E9 s []=0:=by cases s<;>rw[E9]
theorem Rr(a b:α)(s t:List α):E9 (a::s) (b::t)=if a=b then 1+E9 s t else max (E9 s (b::t)) (E9 (a::s) t):=by rw[E9]
mutual
theorem Anq(a:α)(s t:List α):E9 s t<=E9 (a::s) t/\E9 (a::s) t<=E9 s t+1:=
 match s,t with
 | s,[]=>by grind[Abf]
 | [],b::t=>by
  have h:=Anq a [] t
  grind[Vu,Rr]
 | c::s,b::t=>by
  have h1:=Anq a (c::s) t;have h2:=Anr b (c::s) t
  grind[Rr]
termination_by s.length+t.length
theorem Anr(b:α)(s t:List α):E9 s t<=E9 s (b::t)/\E9 s (b::t)<=E9 s t+1:=
 match s,t with
 | [],t=>by grind[Vu]
 | a::s,[]=>by
  have h:=Anr b s []
  grind[Abf,Rr]
 | a::s,c::t=>by
  have h1:=Anr b s (c::t);have h2:=Anq a s (c::t)
  grind[Rr]
termination_by s.length+t.length
end
theorem Ath:∀ s:List α,E9 s s=s.length
 | []=>Vu _
 | a::s=>by rw[Rr,if_pos rfl,Ath s,An];omega
theorem Af5:∀ (s t:List α),E9 s t<=s.length/\E9 s t<=t.length
 | [],t=>by grind[Vu]
 | a::s,[]=>by grind[Abf]
 | a::s,b::t=>by
  have h1:=Af5 s t;have h2:=Af5 s (b::t);have h3:=Af5 (a::s) t
  grind[Rr]
termination_by s t=>s.length+t.length
def Y0(a:α)(s t:List α)(k:Nat):Bool:=decide (t[k]?=some a)&&(1+E9 s (t.drop (k+1))==E9 (a::s) t)
def On(a:α)(s t:List α):Option Nat:=(List.range t.length).find? (Y0 a s t)
def D6:Nat->List α->List α->List Int
 | _,[],_=>[]
 | j,a::s,t=>match On a s t with
  | some k=>((j+k:Nat):Int)::D6 (j+k+1) s (t.drop (k+1))
  | none => -1::D6 j s t
theorem Afb:∀ (s:List α) (j:Nat) (t:List α),(D6 j s t).length=s.length
 | [],_,_=>by grind[D6]
 | a::s,j,t=>by
  rw[D6]
  split
  .rw[An,Afb s,An]
  .rw[An,Afb s,An]
def Ati{a:α}{s t:List α}{k:Nat}(h:On a s t=some k):k<t.length/\t[k]?=some a/\1+E9 s (t.drop (k+1))=E9 (a::s) t:=by
 have h1:=List.find?_some h;have h2:=List.mem_of_find?_eq_some h
 simp_all [Y0]
theorem Atj(a:α)(s:List α):On a s (a::s)=some 0:=by
 grind[On,List.range_succ_eq_map,Y0,Ath]
def Atk:∀ (s:List α) (j:Nat),D6 j s s=(List.range s.length).map fun i=>((j+i:Nat):Int)
 | [],_=>by rw[D6];rfl
 | a::s,j=>by
  rw[D6,Atj];simp only[Aig,Jf];rw[Atk s,An,List.range_succ_eq_map,Aw,Q9];congr 1;refine Ac5 fun i _=>?_
  simp only[Function.comp];omega
def Aep:∀ (s:List α) (j:Nat) (t:List α) (i:Nat) (n:Int),(D6 j s t)[i]?=some n->n = -1\/∃ k,n=((j+k:Nat):Int)/\k<t.length/\t[k]?=s[i]?/\∀ i' n',i'<i->(D6 j s t)[i']?=some n'->n'<n
 | [],_,_,i,n,h=>by grind[D6]
 | a::s,j,t,i,n,h=>by
  rw[D6]at h ⊢
  split at h
  .rename_i k hk;obtain⟨h1,h2,-⟩:=Ati hk
   cases i with
   | zero=>
    grind
   | succ i=>
    rw[Q5]at h;rcases Aep s (j+k+1) (t.drop (k+1)) i n h with h3 | ⟨m,rfl,h4,h5,h6⟩
    .omega
    grind
  .rename_i hk
   cases i with
   | zero=>grind
   | succ i=>
    rw[Q5]at h;rcases Aep s j t i n h with h3 | ⟨m,rfl,h4,h5,h6⟩
    .omega
    grind
end
section
variable {α β:Type} [DecidableEq α] [DecidableEq β]
def D8(s t:List α)(i j:Nat):Nat:=E9 (s.drop i) (t.drop j)
theorem Bjn(s t:List α)(j:Nat):D8 s t s.length j=0:=by grind[D8,Vu]
theorem Bjo(s t:List α)(i:Nat):D8 s t i t.length=0:=by grind[D8,Abf]
def Bdw(s t:List α){i j:Nat}(hi:i<s.length)(hj:j<t.length):D8 s t i j=if s[i]=t[j] then 1+D8 s t (i+1) (j+1) else max (D8 s t (i+1) j) (D8 s t i (j+1)):=by
 grind[D8,List.drop_eq_getElem_cons,Rr]
def Awi(s t:List α)(i j:Nat):D8 s t i j<=s.length/\D8 s t i j<=t.length:=by
 grind[Af5,D8]
def Fx(s t:List α)(i j:Nat):List Int:=(List.range (t.length+1)).map fun k=>if j<=k then(D8 s t i k:Int) else 0
def J0(s t:List α)(i:Nat):List Int:=(List.range (t.length+1)).map fun k=>(D8 s t i k:Int)
def Wf(s t:List α):List (List Int):=(List.range (s.length+1)).map (J0 s t)
theorem Aki(s t:List α)(i j:Nat):(Fx s t i j).length=t.length+1:=by grind[Fx]
theorem Atl(s t:List α)(i:Nat):(J0 s t i).length=t.length+1:=by grind[J0]
def Arn(s t:List α)(i:Nat):Fx s t i 0=J0 s t i:=by grind[Fx,J0]
def A8y(s t:List α)(i:Nat):Fx s t i t.length=List.replicate (t.length+1) 0:=by
 unfold Fx;refine Add AE fun k h1 h2=>?_
 grind[Bjo]
def A8z(s t:List α):J0 s t s.length=List.replicate (t.length+1) 0:=by
 unfold J0;refine Add AE fun k h1 h2=>?_
 grind[Bjn]
def Atm(s t:List α){i j k:Nat}(hk:k<=t.length)(hj:j<=k):(Fx s t i j)[k]?=some (D8 s t i k:Int):=by
 grind[Fx]
def Aeq(s t:List α){i k:Nat}(hk:k<=t.length):(J0 s t i)[k]?=some (D8 s t i k:Int):=by rw[<-Arn,Atm s t hk (Ax _)]
def Atn(s t:List α){i:Nat}(hi:i<=s.length):(Wf s t)[i]?=some (J0 s t i):=by
 grind[Wf]
def A80(s t:List α){i j:Nat}(hj:j<t.length):(Fx s t i (j+1)).set j (D8 s t i j:Int)=Fx s t i j:=by
 unfold Fx;refine Add AE fun k h1 h2=>?_
 grind
/-! the search for the next line -/
def Sa(s t:List α)(i j k:Nat):Prop:=s[i]?=t[k]?/\1+D8 s t (i+1) (k+1)=D8 s t i j
def Bjp{s t:List α}{i j k:Nat}(hi:i<s.length)(hj:j<=k)(hk:k<t.length)(h:Sa s t i j k)(hn:∀ k',j<=k'->k'<k->¬ Sa s t i j k'):On s[i] (s.drop (i+1)) (t.drop j)=some (k - j):=by
 have hc:∀ m,j+m<t.length->(Y0 s[i] (s.drop (i+1)) (t.drop j) m=true↔Sa s t i j (j+m)):=fun m hm=>by
  unfold Y0 Sa D8;rw[<-Io hi];simp only[Ai,decide_eq_true_eq,beq_iff_eq,Aih,Zi]
  grind
 grind[On,List.find?_eq_some_iff_getElem]
def Bdx{s t:List α}{i j k:Nat}(hi:i<s.length)(hj:j<=k)(hk:k<t.length)(h:Sa s t i j k)(hn:∀ k',j<=k'->k'<k->¬ Sa s t i j k'):D6 j (s.drop i) (t.drop j)=(k:Int)::D6 (k+1) (s.drop (i+1)) (t.drop (k+1)):=by
 rw[Io hi,D6,Bjp hi hj hk h hn]
 grind[List.drop_drop]
def A81{s t:List α}{i j:Nat}(hi:i<s.length)(hn:∀ k,j<=k->k<t.length->¬ Sa s t i j k):D6 j (s.drop i) (t.drop j) = -1::D6 j (s.drop (i+1)) (t.drop j):=by
 rw[Io hi,D6]
 have:On s[i] (s.drop (i+1)) (t.drop j)=none:=by
  cases he:On s[i] (s.drop (i+1)) (t.drop j) with
  | none=>rfl
  | some m=>
   obtain⟨h1,h2,h3⟩:=Ati he;rw[Gz]at h1;refine absurd ?_ (hn (j+m) AA AA);rw[Aih]at h2;rw[Zi,<-Io hi]at h3;exact⟨by grind,h3⟩
 rw[this]
theorem Awj:∀ (s:List α) (j:Nat),D6 j s []=List.replicate s.length (-1)
 | [],_=>by grind[D6]
 | a::s,j=>by
  rw[D6];have:On a s ([]:List α)=none:=by unfold On;simp
  rw[this];simp only;rw[Awj s,An,Ac4]
/-! both programs -/
def Gb(nm:β):List (β × List α)->Nat × Option (List α)
 | []=>(0,none)
 | q::r=>if q.1=nm then(0,some q.2) else(q.2.length+(Gb nm r).1,(Gb nm r).2)
def Ln(b:Nat)(l:List Int):List Int:=l.map fun k=>if 0<=k then k+b else k
def Ik(p:β × List α)(Q:List (β × List α)):List Int:=Ln (Gb p.1 Q).1 (D6 0 p.2 ((Gb p.1 Q).2.getD []))
def Jk(P Q:List (β × List α)):List Int:=P.flatMap fun p=>Ik p Q
def Em(P:List (β × List α)):List (β × α):=P.flatMap fun p=>p.2.map fun x=>(p.1,x)
def A82(p:β × List α)(Q:List (β × List α)):(Ik p Q).length=p.2.length:=by grind[Ik,Ln,Afb]
theorem Aro{p:β × List α}{Q:List (β × List α)}(h:(Gb p.1 Q).2=none):Ik p Q=List.replicate p.2.length (-1):=by
 grind[Ik,Ln,Awj,List.map_replicate]
def Ai3(p:β × List α)(P Q:List (β × List α)):Jk (p::P) Q=Ik p Q++Jk P Q:=by grind[Jk]
def W7(p:β × List α)(P:List (β × List α)):Em (p::P)=(p.2.map fun x=>(p.1,x))++Em P:=by grind[Em]
def Ai6:∀ P Q:List (β × List α),(Jk P Q).length=(Em P).length
 | [],_=>rfl
 | p::P,Q=>by rw[Ai3,W7,Aq,Aq,A82,Ar,Ai6 P Q]
def Aqh{nm:β}:∀ {Q:List (β × List α)} {l:List α},(Gb nm Q).2=some l->∀ m x,l[m]?=some x->(Em Q)[(Gb nm Q).1+m]?=some (nm,x)
 | [],l,h,m,x,hx=>by grind[Gb]
 | q::Q,l,h,m,x,hx=>by
  rw[Gb]at h ⊢;rw[W7]
  split at h
  .grind
  .rename_i hq;rw[if_neg hq];simp only at h ⊢;rw[F6 (by grind),Ar,show q.2.length+(Gb nm Q).1+m - q.2.length=(Gb nm Q).1+m by omega];exact Aqh h m x hx
def A5q{p:β × List α}{Q:List (β × List α)}{i:Nat}{n:Int}(h:(Ik p Q)[i]?=some n):n = -1\/∃ k:Nat,n=k/\(∃ x,p.2[i]?=some x/\(Em Q)[k]?=some (p.1,x))/\∀ i' n',i'<i->(Ik p Q)[i']?=some n'->n'<n:=by
 cases hf:(Gb p.1 Q).2 with
 | none=>
  grind[Aro]
 | some l=>
  unfold Ik Ln at h ⊢;rw[hf,Q8]at h ⊢;rw[Au]at h
  cases hm:(D6 0 p.2 l)[i]? with
  | none=>grind
  | some m=>
   rw[hm,Ir,Adc]at h;rcases Aep p.2 0 l i m hm with rfl | ⟨k,rfl,h1,h2,h3⟩
   .omega
   .rw[if_pos AA]at h;have hk:=B9 h1;refine .inr ⟨(Gb p.1 Q).1+k,by omega,⟨l[k],by grind,Aqh hf k _ hk⟩,fun i' n' hi hn=>?_⟩
    grind
def Ato{nm:β}:∀ {A B:List (β × List α)} {l:List α},(∀ q∈A,q.1≠nm)->Gb nm (A++(nm,l)::B)=((Em A).length,some l)
 | [],B,l,_=>by rw[Ba,Gb,if_pos rfl];rfl
 | q::A,B,l,h=>by
  rw[Bq,Gb,if_neg (h q B4),Ato fun r hr=>h r (Cb _ hr),W7,Aq,Ar]
def Apy:∀ (B A:List (β × List α)),((A++B).map fun p=>p.1).Nodup->Jk B (A++B)=(List.range (Em B).length).map fun i=>(((Em A).length+i:Nat):Int)
 | [],A,_=>rfl
 | p::B,A,h=>by
  have h2:=Apy B (A++[p]) (by simpa using h);rw[Bt,List.singleton_append]at h2;rw[Ai3,h2]
  have hA:∀ q∈A,q.1≠p.1:=by
   intro q hq he;rw[Fz,Aw,Aii]at h;exact h.2.2 q.1 (Cs.2 ⟨q,hq,rfl⟩) p.1 B4 he
  have h1:Ik p (A++p::B)=(List.range p.2.length).map fun i=>(((Em A).length+i:Nat):Int):=by
   unfold Ik Ln;have:=Ato (B:=B) (l:=p.2) hA;rw[show(p.1,p.2)=p from rfl]at this;rw[this];simp only[Q8];rw[Atk,Q9];refine Ac5 fun i _=>?_
   simp only[Function.comp];rw[if_pos AA];omega
  have h3:(Em (A++[p])).length=(Em A).length+p.2.length:=by unfold Em;simp
  rw[h1,h3,W7,Aq,Ar,List.range_add,Fz,Q9];congr 1;refine Ac5 fun i _=>?_
  simp only[Function.comp];omega
def A27{P:List (β × List α)}(h:(P.map fun p=>p.1).Nodup):Jk P P=(List.range (Em P).length).map fun i:Nat=>(i:Int):=by
 have:=Apy P [] (by simpa using h);rw[Ba]at this;rw[this];refine Ac5 fun i _=>?_
 simp[Em]
end
variable {α:Type} [DecidableEq α]
/-! version.common: the rows from i on are there; row k is object 1 + (n - k) -/
def Acg(m b:Nat):V:=.sl b 0 0 (m+1) 1 true
def E5(n m i:Nat):List V:=(List.range (n+1)).map fun k=>if k<i then .nils else Acg m (1+(n - k))
def Fo(s t:List α)(k:Nat):List (List Int):=(List.range k).map fun d=>J0 s t (s.length - d)
def Gd(OT IT n m i:Nat)(R:List (List Int)):St:=.row (E5 n m i) OT 0 0::R.map fun r=>.row (Df r) IT 0 0
theorem Akj(n m i:Nat):(E5 n m i).length=n+1:=by grind[E5]
def A5r(n m:Nat):(List.replicate (n+1) V.nils).set n (Acg m 1)=E5 n m n:=by
 unfold E5;refine Add AE fun k h1 h2=>?_
 grind
def A83{n m i:Nat}(hi:i<n):(E5 n m (i+1)).set i (Acg m (1+(n - i)))=E5 n m i:=by
 unfold E5;refine Add AE fun k h1 h2=>?_
 grind
def A84{n m i k:Nat}(h:i<=k)(hk:k<=n):(E5 n m i)[k]?=some (Acg m (1+(n - k))):=by
 unfold E5
 grind
def Ajp(s t:List α)(k:Nat):(Fo s t k).length=k:=by grind[Fo]
def A3z(s t:List α)(k:Nat):Fo s t k++[J0 s t (s.length - k)]=Fo s t (k+1):=by
 grind[Fo,List.range_succ]
def Bdy(OT IT n m i:Nat)(R:List (List Int)):(Gd OT IT n m i R).length=1+R.length:=by grind[Gd]
def Bdz(OT IT n m i:Nat)(R:List (List Int))(r:List Int):Gd OT IT n m i R++[.row (Df r) IT 0 0]=Gd OT IT n m i (R++[r]):=by
 grind[Gd]
def Alm(OT IT n m i:Nat){R:List (List Int)}{k:Nat}{r:List Int}(h:R[k]?=some r):(Gd OT IT n m i R)[1+k]?=some (.row (Df r) IT 0 0):=by
 grind[Gd]
def Bd0(OT IT n m i:Nat)(R:List (List Int))(k:Nat)(r:List Int):(Gd OT IT n m i R).set (1+k) (.row (Df r) IT 0 0)=Gd OT IT n m i (R.set k r):=by
 grind[Gd,List.map_set]
def A30(s t:List α){i:Nat}(hi:i<s.length)(r:List Int):(Fo s t (s.length - i)++[r])[s.length - (i+1)]?=some (J0 s t (i+1)):=by
 grind[Fo]
def A5s(s t:List α)(i:Nat)(r:List Int):(Fo s t (s.length - i)++[r])[s.length - i]?=some r:=by
 simp[Ajp]
def A5t(s t:List α)(i:Nat)(r r':List Int):(Fo s t (s.length - i)++[r]).set (s.length - i) r'=Fo s t (s.length - i)++[r']:=by
 simp[Ajp]
def A31(s t:List α){i:Nat}(hi:i<=s.length):Fo s t (s.length - i)++[J0 s t i]=Fo s t (s.length - i+1):=by
 rw[<-A3z,show s.length - (s.length - i)=i by omega]
def vL(s t:List α):List (Nat × List Int):=(List.range (s.length+1)).map fun k=>(1+(s.length - k),J0 s t k)
def Bjq(s t:List α):(vL s t).length=s.length+1:=by grind[vL]
def Bjr(s t:List α):((vL s t).map fun p=>p.2)=Wf s t:=by
 simp[vL,Wf]
def Bjs(s t:List α):R9 (vL s t)=E5 s.length t.length 0:=by
 unfold R9 vL E5 Acg;simp[Atl]
def Bd1(OT IT:Nat)(s t:List α):∀ p∈vL s t,∃ e z,(Gd OT IT s.length t.length 0 (Fo s t (s.length+1)))[p.1]?=some (.row (Df p.2) e 0 z):=by
 intro p hp;unfold vL at hp;obtain⟨k,hk,rfl⟩:=Cs.1 hp;rw[Eg]at hk;refine⟨IT,0,Alm _ _ _ _ _ ?_⟩
 grind[Fo]
/-! the reference's common: all rows are there; row k is object 1 + k -/
variable {T:Nat->Option AF} {pr:Nat->Option (List V->Option V)}
inductive LXt (qa:List (List Nat)) (n:Nat):List Nat->List Nat->Prop
 | nil {qb:List Nat}:qb.length=n->LXt qa n qb []
 | cons {qb:List Nat} {i:Nat} {L:List Nat}:i<n->i ∉ qb->(∀ d∈qa.getD i [],d∈qb)->LXt qa n (i::qb) L->LXt qa n qb (i::L)
theorem Ayp{qa:List (List Nat)}{n:Nat}(hn:qa.length=n)(qE:∀ j,j<n->∀ d∈qa.getD j [],d<j):∀ (fuel t:Nat) (qb:List Nat),qb.length+fuel=n->qb.Nodup->(∀ i∈qb,i<n)->LXt qa n qb (Pc qa fuel t qb)
 | 0,t,qb,hl,_,_=>.nil AA
 | fuel+1,t,qb,hl,hnd,qu=>by
  have qw:∃ j,j<n/\j ∉ qb/\∀ d∈qa.getD j [],d∈qb:=by
   have qY:∃ j,j<n/\j ∉ qb:=by
    rcases Classical.em (∃ j,j<n/\j ∉ qb) with h | h
    .exact h
    .exfalso;have qp:∀ j,j<n->j∈qb:=fun j hj=>Classical.byContradiction fun hc=>h ⟨j,hj,hc⟩
     have h1:=Adw n qb qp;omega
   have:∀ k,∀ j,j<=k->j<n->j ∉ qb->∃ j,j<n/\j ∉ qb/\∀ d∈qa.getD j [],d∈qb:=by
    intro k
    induction k with
    | zero=>
     grind
    | succ k ih=>
     grind
   obtain⟨j,h1,h2⟩:=qY;exact this j j (Aj _) h1 h2
  unfold Pc;generalize qQ:(List.range qa.length).filter (Nc qa qb)=rs
  have qv:0<rs.length:=by
   obtain⟨j,h1,h2,h3⟩:=qw
   have:j∈rs:=by
    rw[<-qQ,U0];refine⟨by grind,?_⟩;simp only[Nc,Ai,Q7,Bu];refine⟨?_,fun d hd=>Zk.2 (h3 d hd)⟩
    cases hel:qb.elem j with
    | false=>rfl
    | true=>grind
   exact List.length_pos_of_mem this
  have qm:rs[t % rs.length]?=some (rs[t % rs.length]'(O0 _ qv)):=B9 _;generalize rs[t % rs.length]'(O0 _ qv)=i at qm;rw[qm];have qN:i∈rs:=F7 qm;rw[<-qQ,U0]at qN;obtain⟨qO,qj⟩:=qN;have hi:i<n:=by rw[Eg,hn]at qO;exact qO
  simp only[Nc,Ai,Q7,Bu]at qj;have qt:i ∉ qb:=fun h=>by grind
  have ql:∀ d∈qa.getD i [],d∈qb:=fun d hd=>Zk.1 (qj.2 d hd)
  exact .cons hi qt ql (Ayp hn qE fuel _ (i::qb) (by grind) (Zh.2 ⟨qt,hnd⟩) (fun j hj=>by
   grind))
section
variable {qa:List (List Nat)} {ops:List AI} {e e1:Env} {σ σ1:St} {qr:Nat->Env} {st:Nat->St} {val:Nat->V} {ro:Nat->Option (St->Prop)}
def Atp(qk:StaP qa ops)(q:Sr T pr qa ops.length 0 ops e σ [] [] e1 σ1 qr st val ro):∀ (L qb:List Nat) (E:Env) (S':St),LXt qa ops.length qb L->qb.Nodup->(∀ i∈qb,i<ops.length)->DC qa qb ->
  EnvOK ops val e (·∈qb) E->Y3 ops ro st qb S'->∃ E',Ev T pr (.ops (D2 ops L) E S' E' σ1)/\∀ m,E'.get m=e1.get m
 | [],qb,E,S',.nil hl,hn,qu,hdc,hE,⟨m,hm,hS,heff⟩=>by
  have qs:∀ j,j<ops.length->j∈qb:=fun j hj=>Ayb hn qu AA hj
  refine⟨E,?_,fun k=>?_⟩
  .have qR:S'=σ1:=by
    rw[hS,<-q.s1,Gf];obtain⟨d,hd⟩:∃ d,m+d=ops.length:=⟨ops.length - m,by omega⟩;rw[<-hd];refine(O2 q id d m AA (fun k h1 h2 he=>?_)).symm;have:=(heff k he).2 (qs k AA);omega
   rw[qR];exact .opsNil
  .have ht:=Zw q ops.length (Aj _);have qL:=q.e1;rw[Gf]at qL;rw[<-qL];exact hE.same ht (fun j hj=>⟨fun h=>qu j h,fun h=>qs j h⟩)
 | i::L,qb,E,S',.cons hi qt ql hL,hn,qu,hdc,hE,⟨m,hm,hS,heff⟩=>by
  obtain⟨x,hx⟩:∃ x,ops[i]?=some x:=⟨ops[i],B9 hi⟩
  have qT:∀ j y,i<j->ops[j]?=some y->j∈qb->N7 x y=true:=fun j y qG hy hj=>by
   rcases qk.pair i j x y qG hx hy with h | h
   .grind[S6]
   omega
  have qX:∀ j y,j<i->ops[j]?=some y->j ∉ qb->N7 y x=true:=fun j y qG hy hj=>by
   rcases qk.pair j i y x qG hy hx with h | h
   .grind[Ad5]
   omega
  have qg:∀ {j t:Nat},Pf ops j=some t->∃ y,ops[j]?=some y/\y.dst=some t:=fun {j t} h=>by
   unfold Pf at h
   grind
  have qh:Agree (qr i) E x.rd:=fun t ht=>by
   refine(Zw q i AA).same hE (fun j hj=>?_);obtain⟨y,hy,jg⟩:=qg hj;constructor
   .intro qn;rcases Classical.em (j∈qb) with h | h
    .exact h
    .have:=qX j y qn hy h
     simp_all [N7]
   .intro ja;rcases Zf j i with h | h | h
    .exact h
    .grind
    .have:=qT j y h hy ja
     simp_all [N7]
  obtain⟨qF,qd⟩:=q.stp i x hx;simp only[Gf]at qF qd
  have qU:EnvOK ops val e (·∈i::qb) (E.putO x.dst (val i)):=(hE.put hx (fun j t hj jm jb=>by
   obtain⟨y,hy,jg⟩:=qg jb;rcases Zf j i with h | h | h
   .exact h
   .grind
   .have:=qT j y h hy hj
    simp_all [N7])).iff (fun j=>by grind)
  have qD:DC qa (i::qb):=fun j hj d hd=>by
   rcases Bp.1 hj with rfl | hj
   .grind
   .exact Cb _ (hdc j hj d hd)
  have next:∀ S2,Y3 ops ro st (i::qb) S2->Sg T pr x E S' (val i) S2->∃ E',Ev T pr (.ops (D2 ops (i::L)) E S' E' σ1)/\∀ m,E'.get m=e1.get m:=fun S2 qB qS=>by
   obtain⟨E',h1,h2⟩:=Atp qk q L (i::qb) _ S2 hL (Zh.2 ⟨qt,hn⟩) (fun j hj=>by
    grind) qD qU qB
   refine⟨E',?_,h2⟩
   have:D2 ops (i::L)=x::D2 ops L:=by
    unfold D2;rw[Nq,hx]
   rw[this];exact qS.ev h1
  have hb:=Ayd qk.dep
  cases hro:ro i with
  | none=>
   rw[hro]at qd;have qd:Sg T pr x (qr i) (st i) (val i) (st (i+1)):=qd
   have qM:∀ k,Yy ops ro k->(k∈qb↔k<i):=fun k ⟨qH,jc⟩=>by
    constructor
    .intro hk;rcases Zf k i with h | h | h
     .exact h
     .grind
     .have:=q.d0 i k h qH (by grind) (by grind);simp only[Gf]at this
      grind[S6]
    .intro hk;have:=q.d0 k i hk hi (by grind) (by grind);simp only[Gf]at this
     grind[Ad5]
   have qV:S'=st i:=by
    rw[hS];rcases Aiz m i with qo | qo
    .obtain⟨d,rfl⟩:=Uw qo
     exact(O2 q id d m AA (fun k a1 a2 he=>by
      grind)).symm
    .obtain⟨d,rfl⟩:=Uw qo
     exact O2 q id d i AA (fun k a1 a2 he=>by
      grind)
   rw[qV]at next ⊢
   refine next (st (i+1)) ⟨i+1,by omega,rfl,fun k he=>?_⟩ (qd.move qh)
   grind
  | some R=>
   rw[hro]at qd;obtain⟨jh,ji,jd⟩:st (i+1)=st i/\R (st i)/\∀ s',R s'->Sg T pr x (qr i) s' (val i) s':=qd
   have qB:Y3 ops ro st (i::qb) S':=⟨m,hm,hS,fun k he=>by
    rw[heff k he,Bp];constructor
    .grind
    .rintro(rfl | h)
     .rw[he.2]at hro;cases hro
     omega⟩
   refine next S' qB ((jd S' ?_).move qh)
   have qI:∀ k,Yy ops ro k->(k∈qb/\i<k\/k ∉ qb/\k<i)->R (st (k+1))=R (st k):=fun k ⟨qH,jc⟩ hk=>by
    have hd:=q.d1 i k R hi qH (by grind) (by grind);simp only[Gf]at hd
    grind[S6]
   rw[hS];rcases Aiz m i with qo | qo
   .obtain⟨d,rfl⟩:=Uw qo
    have:=O2 q R d m AA (fun k a1 a2 he=>qI k he (.inr ⟨fun jj=>by
     grind,a2⟩))
    grind
   .obtain⟨d,rfl⟩:=Uw qo
    have:=O2 q R d i AA (fun k a1 a2 he=>by
     grind)
    grind
def A85(qk:Ph qa ops=true)(h:TG T pr qa ops.length 0 ops e σ [] [] e1 σ1){L:List Nat}(hL:LXt qa ops.length [] L):∃ E',Ev T pr (.ops (D2 ops L) e σ E' σ1)/\∀ m,E'.get m=e1.get m:=by
 obtain⟨qr,st,val,ro,q⟩:=h.sr;exact Atp (Av3 qk) q L [] e σ hL W1 (fun i hi=>by cases hi) (fun j hj=>by cases hj) (fun t=>.inr ⟨(fun j hj=>by cases hj),rfl⟩) ⟨0,Ax _,q.s0.symm,fun j _=>by simp⟩
end
def Y8(L:List Nat)(a b:Nat):Prop:=∀ L1 L2,L=L1++b::L2->a∈L1
def Bjt{L:List Nat}{a b:Nat}(qC:a≠b):Y8 L a b\/Y8 L b a:=by
 rcases Classical.em (Y8 L a b) with h | h
 .grind
 .refine .inr ?_;unfold Y8 at h;obtain⟨L1,h⟩:=Classical.not_forall.1 h;obtain⟨L2,h⟩:=Classical.not_forall.1 h;obtain⟨h1,h2⟩:=Classical.not_imp.1 h;intro M1 M2 h3;rw[h1]at h3;rcases List.append_eq_append_iff.1 h3 with⟨c,rfl,h4⟩ | ⟨c,rfl,h4⟩
  .cases c with
   | nil=>grind
   | cons x c=>grind
  .cases c with
   | nil=>grind
   | cons x c=>grind
def DR(T:Nat->Option AF)(pr:Nat->Option (List V->Option V))(qa:List (List Nat))(X:List (Nat × Nat))(ops:List AI)(e:Env)(σ:St)(e1:Env)(σ1:St):Prop:=
 ∀ L,LXt qa ops.length [] L->(∀ p∈X,Y8 L p.1 p.2)->∃ E',Ev T pr (.ops (D2 ops L) e σ E' σ1)/\∀ m,E'.get m=e1.get m
section
variable {qa:List (List Nat)} {ops:List AI} {e e1:Env} {σ σ1:St} {X:List (Nat × Nat)}
def A86(a b:Nat)(qC:a≠b)(h1:DR T pr qa ((a,b)::X) ops e σ e1 σ1)(h2:DR T pr qa ((b,a)::X) ops e σ e1 σ1):DR T pr qa X ops e σ e1 σ1:=fun L hL hX=>by
 rcases Bjt (L:=L) qC with h | h
 .exact h1 L hL fun p hp=>by
   grind
 .exact h2 L hL fun p hp=>by
   grind
def Pt(P:List Nat)(i:Nat):Nat:=P.idxOf i
def Ag7(qa qe:List (List Nat))(X:List (Nat × Nat))(n:Nat)(P:List Nat):Bool:=
 P.length==n&&((List.range n).all fun i=>P[Pt P i]?==some i&&decide (Pt P i<n)&&((qe.getD (Pt P i) []).all fun d'=>((qa.getD i []).any fun d=>Pt P d==d')||X.any fun p=>p.2==i&&Pt P p.1==d'))
def Atq{P:List Nat}{ops qf:List AI}(ho:D2 ops P=qf)(qi:qf.length=P.length)(hP:∀ i∈P,i<ops.length):∀ L:List Nat,(∀ i∈L,P[Pt P i]?=some i)->D2 qf (L.map (Pt P))=D2 ops L
 | [],_=>rfl
 | i::L,h=>by
  have ih:=Atq ho qi hP L fun j hj=>h j (Cb _ hj)
  have hi:=h i B4
  have qz:∀ (P:List Nat) (k:Nat) (i:Nat),(∀ i∈P,i<ops.length)->P[k]?=some i->(D2 ops P)[k]?=ops[i]?:=by
   intro P
   induction P with
   | nil=>grind
   | cons p P ihP=>
    grind[D2]
  grind[D2]
def Awk(P:List Nat)(qe:List (List Nat))(qf:List AI)(ho:D2 ops P=qf)(qi:qf.length=ops.length)(hp:Ag7 qa qe X ops.length P=true)(qk:Ph qe qf=true){e2:Env}(h:TG T pr qe qf.length 0 qf e σ [] [] e2 σ1)(he:∀ m,e2.get m=e1.get m):DR T pr qa X ops e σ e1 σ1:=by
 intro L hL hX;unfold Ag7 at hp;simp only[Ai,beq_iff_eq,Bu,Eg,decide_eq_true_eq,Ov,Ns]at hp;obtain⟨jk,qy⟩:=hp
 have qZ:∀ i j,i<ops.length->j<ops.length->Pt P i=Pt P j->i=j:=fun i j hi hj h=>by
  grind
 have qJ:∀ L qb,LXt qa ops.length qb L->(∀ i∈qb,i<ops.length)->(∀ p∈X,Y8 (qb.reverse++L) p.1 p.2)->LXt qe ops.length (qb.map (Pt P)) (L.map (Pt P))/\∀ i∈L,i<ops.length:=by
  intro L
  induction L with
  | nil=>
   intro qb hl _ _
   cases hl with
   | nil hl=>exact⟨.nil (by grind),by simp⟩
  | cons i L ih=>
   intro qb hl qu hB
   cases hl with
   | cons hi qt hd hl=>
    have qn:∀ j∈i::qb,j<ops.length:=fun j hj=>by
     grind
    obtain⟨g1,g2⟩:=ih (i::qb) hl qn (by grind)
    refine⟨.cons (qy i hi).1.2 (fun hm=>?_) (fun d' qW=>?_) (by grind),fun j hj=>by
     grind⟩
    .grind
    .rcases(qy i hi).2 d' qW with⟨d,h1,h2⟩ | ⟨p,h1,h2,h3⟩
     .grind
     .have:=hB p h1 qb.reverse L (by rw[h2])
      grind
 obtain⟨g1,g2⟩:=qJ L [] hL (fun i hi=>by cases hi) (by grind);rw[<-qi]at g1;obtain⟨E',h1,h2⟩:=A85 qk h g1;refine⟨E',?_,fun m=>(h2 m).trans (he m)⟩
 have qA:∀ i∈P,i<ops.length:=by
  have qp:∀ i,i<ops.length->i∈P:=fun i hi=>F7 (qy i hi).1.1
  intro i hi;rcases Bh i ops.length with h | h
  .exact h
  .exfalso;have h1:=Adw ops.length (P.erase i) (fun j hj=>(List.mem_erase_of_ne AA).2 (qp j hj))
   grind
 rw[Atq ho AA qA L (fun i hi=>(qy i (g2 i hi)).1.1)]at h1;exact h1
def Bju{kill:List Nat}{k:List It}{Q:Env->St->Prop}(qk:((qa.length==ops.length)&&(List.range ops.length).all fun j=>(qa.getD j []).all fun d=>decide (d<j))=true)(h:∃ e1 σ1,DR T pr qa [] ops e σ e1 σ1/\W T pr k (e1.del kill) σ1 Q):W T pr (.c (.drw kill qa ops)::k) e σ Q:=by
 obtain⟨e1,σ1,hd,e',σ',h2,q⟩:=h;simp only[Ai,beq_iff_eq,Bu,Eg,decide_eq_true_eq]at qk
 have qz:∀ t,∃ E',Ev T pr (.ops (D2 ops (Q0 qa t)) e σ E' σ1)/\∀ m,E'.get m=e1.get m:=fun t=>by
  refine hd _ ?_ (fun p hp=>by cases hp)
  grind[Q0,Ake,Ayp]
 exact⟨e',σ',.cDrw (fun t=>(qz t).choose) (fun t=>(qz t).choose_spec.1) (fun t=>(qz t).choose_spec.2) h2,q⟩
end
/-! environments by their slots -/
def Abx(k:Nat)(v:V):Env->Env
 | []=>[(k,v)]
 | (m,u)::r=>if k<m then(k,v)::(m,u)::r else if k=m then(k,v)::r else(m,u)::Abx k v r
def Ry:Env->Env
 | []=>[]
 | (k,v)::r=>Abx k v (Ry r)
def Atr(k:Nat)(v:V)(n:Nat):∀ l:Env,(Abx k v l).get n=if k=n then v else l.get n
 | []=>by simp[Abx,Env.get]
 | (m,u)::r=>by
  have ih:=Atr k v n r;unfold Abx
  split
  .simp[Env.get]
  .split
   .grind[Env.get]
   .simp only[Env.get,ih]
    grind
def Ajq(n:Nat):∀ e:Env,(Ry e).get n=e.get n
 | []=>rfl
 | (k,v)::r=>by
  rw[Ry,Atr,Ajq n r];rfl
def A87{e e':Env}(h:Ry e=Ry e')(n:Nat):e.get n=e'.get n:=by rw[<-Ajq n e,h,Ajq]
def DE(E:Env)(S:St)(e:Env)(σ:St):Prop:=e=E/\σ=S
def DS(E:Env)(S:St)(e:Env)(σ:St):Prop:=Ry e=Ry E/\σ=S
def Bod{E:Env}{S:St}:DE E S E S:=⟨rfl,rfl⟩
def Boe{E e:Env}{S σ:St}(h:Ry e=Ry E)(h':σ=S):DS E S e σ:=⟨h,h'⟩
def Bjv{qa:List (List Nat)}{ops:List AI}{kill:List Nat}{k:List It}{e:Env}{σ:St}{Q:Env->St->Prop}(a b:Nat)(P1 P2:List Nat)(d1 d2:List (List Nat)){E:Env}{S:St}
  (hp:((qa.length==ops.length)&&((List.range ops.length).all fun j=>(qa.getD j []).all fun d=>decide (d<j))&&(a==b)==false&&Ag7 qa d1 [(a,b)] ops.length P1&&Ag7 qa d2 [(b,a)] ops.length P2&&Ph d1 (D2 ops P1)&&Ph d2 (D2 ops P2)&&(D2 ops P1).length==ops.length&&(D2 ops P2).length==ops.length)=true)
  (h1:wg T pr d1 (D2 ops P1).length [] [] (DE E S) 0 (D2 ops P1) e σ [] [])
  (h2:wg T pr d2 (D2 ops P2).length [] [] (DS E S) 0 (D2 ops P2) e σ [] [])
  (h:WE T pr (E.del kill) k S Q):W T pr (.c (.drw kill qa ops)::k) e σ Q:=by
 simp only[Ai,beq_iff_eq]at hp;obtain⟨⟨⟨⟨⟨⟨⟨⟨qR,qS⟩,qC⟩,p1⟩,p2⟩,s1⟩,s2⟩,l1⟩,l2⟩:=hp
 have qK:∀ {e1:Env} {σ1:St} {P:Env->St->Prop},W T pr [] (e1.del []) σ1 P->P e1 σ1:=fun {e1 σ1 P} h=>by
  have hd:∀ e:Env,e.del []=e:=fun e=>by
   induction e with
   | nil=>rfl
   | cons p r ih=>simp_all [Env.del]
  grind[Az9]
 obtain⟨e1,σ1,t1,g1⟩:=V2 _ _ _ _ _ _ h1;obtain⟨rfl,rfl⟩:=qK g1;obtain⟨e2,σ2,t2,g3⟩:=V2 _ _ _ _ _ _ h2;obtain⟨g4,rfl⟩:=qK g3;refine Bju ?_ ⟨_,_,A86 a b (by grind) (Awk P1 d1 _ rfl l1 p1 s1 t1 fun _=>rfl) (Awk P2 d2 _ rfl l2 p2 s2 t2 (A87 g4)),h⟩
 grind
