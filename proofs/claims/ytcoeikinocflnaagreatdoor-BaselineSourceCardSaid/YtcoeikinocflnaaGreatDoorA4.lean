/- THE PLAIN MACHINE, joined texts: Oa Ob Oc Od Oe. -/
import Derived.Test.YtcoeikinocflnaaGreatDoorA3
import Derived.IntWalk
set_option linter.all false
/- Regions that draw their order, in general: reads float as long as what they read stays, effects keep their order. -/
namespace Go.Proofs.YtcoeikinocflnaaGreatDoor.KM
open Go
variable {T:Nat->Option AF} {pr:Nat->Option (List V->Option V)}
inductive Sg (T:Nat->Option AF) (pr:Nat->Option (List V->Option V)):AI->Env->St->V->St->Prop
 | off {i:AI} {e:Env} {σ:St}:Cg e i=some false->Sg T pr i e σ .skp σ
 | val {i:AI} {e:Env} {σ σ1:St} {v:V}:Cg e i=some true->Ae i.op e σ=some (v,σ1)->Sg T pr i e σ v σ1
 | prim {i:AI} {f:Nat} {args:List V} {e:Env} {σ:St} {s:List V->Option V} {vs:List V} {v:V}:Cg e i=some true->Bt e i.op=some (f,args)->pr f=some s ->
   C6 σ args=some vs->s vs=some v->Sg T pr i e σ v (after σ args v)
 | pure {i:AI} {f:Nat} {args:List V} {e:Env} {σ:St} {vs:List V} {v:V}:Cg e i=some true->Bt e i.op=some (f,args) ->
   C6 σ args=some vs->Fn T pr f vs v->Sg T pr i e σ v (after σ args v)
 | own {i:AI} {f:Nat} {args:List V} {e:Env} {σ σ0:St} {F:AF} {vs:List V} {v:V}:Cg e i=some true->Bt e i.op=some (f,args)->T f=some F->F.thr=false->F.spec=none ->
   C6 σ args=some vs->Ev T pr (.fn f vs [] v σ0)->Sg T pr i e σ (v.ren (·+σ.length)) (own σ args σ0)
 | any {i:AI} {f:Nat} {args:List V} {e:Env} {σ σ1:St} {F:AF} {v:V}:Cg e i=some true->Bt e i.op=some (f,args)->T f=some F->F.spec=none ->
   Ev T pr (.fn f args σ v σ1)->Sg T pr i e σ v σ1
 | thr {i:AI} {f:Nat} {args:List V} {e:Env} {σ σ1:St} {F:AF} {v:V}:Cg e i=some true->Bt e i.op=some (f,args)->T f=some F->F.thr=true->F.spec=none ->
   Ev T pr (.fn f args σ v σ1)->Sg T pr i e σ v σ1
 | spec {i:AI} {f:Nat} {args:List V} {e:Env} {σ σ1:St} {F:AF} {s:List V->St->Option (V × St)} {v:V}:Cg e i=some true->Bt e i.op=some (f,args)->T f=some F->F.thr=true->F.spec=some s ->
   s args σ=some (v,σ1)->Sg T pr i e σ v σ1
theorem Sg.ev{i:AI}{l:List AI}{e e':Env}{σ σ1 σ':St}{v:V}(h:Sg T pr i e σ v σ1)(g:Ev T pr (.ops l (e.putO i.dst v) σ1 e' σ')):Ev T pr (.ops (i::l) e σ e' σ'):=by
 cases h with
 | off h=>exact .opsSkip h g
 | val h hv=>exact .opsVal h hv g
 | prim h hc hp hx hs=>exact .opsPrim h hc hp hx hs g
 | pure h hc hx hf=>
  obtain⟨F,h1,h2,h3,v0,σ0,h4,h5⟩:=hf;exact .opsPure h hc h1 h2 h3 hx h4 h5 g
 | own h hc h1 h2 h3 hx h4=>exact .opsOwn h hc h1 h2 h3 hx h4 g
 | any h hc h1 h3 h4=>exact .opsAny h hc h1 h3 h4 g
 | thr h hc h1 h2 h3 h4=>exact .opsThr h hc h1 h2 h3 h4 g
 | spec h hc h1 h2 h3 h4=>exact .opsSpec h hc h1 h2 h3 h4 g
theorem Aof{e e':Env}{op:AO}(h:Agree e e' op.rd):Bt e op=Bt e' op:=by
 cases op with
 | call f xs=>simp only[Bt];rw[Mh h]
 | callv x xs=>exact Wi h
 | _=>rfl
theorem Sg.move{i:AI}{e e':Env}{σ σ1:St}{v:V}(h:Sg T pr i e σ v σ1)(ha:Agree e e' i.rd):Sg T pr i e' σ v σ1:=by
 have hw:=Aex ha;have hc':=Aof (op:=i.op) ha.l
 cases h with
 | off h=>exact .off (hw ▸ h)
 | val h hv=>exact .val (hw ▸ h) (Aga (op:=i.op) ha.l σ ▸ hv)
 | prim h hc hp hx hs=>exact .prim (hw ▸ h) (hc' ▸ hc) hp hx hs
 | pure h hc hx hf=>exact .pure (hw ▸ h) (hc' ▸ hc) hx hf
 | own h hc h1 h2 h3 hx h4=>exact .own (hw ▸ h) (hc' ▸ hc) h1 h2 h3 hx h4
 | any h hc h1 h3 h4=>exact .any (hw ▸ h) (hc' ▸ hc) h1 h3 h4
 | thr h hc h1 h2 h3 h4=>exact .thr (hw ▸ h) (hc' ▸ hc) h1 h2 h3 h4
 | spec h hc h1 h2 h3 h4=>exact .spec (hw ▸ h) (hc' ▸ hc) h1 h2 h3 h4
def Jr(x y:AI):Bool:=
 (match x.dst with
  | some d=>!y.rd.elem d&&!(y.dst==some d)
  | none=>true)&&(match y.dst with
  | some d=>!x.rd.elem d
  | none=>true)
def K8(deps:List (List Nat))(ops:List AI):Bool:=
 deps.length==ops.length&&(List.range ops.length).all fun j=>((deps.getD j []).all fun d=>decide (d<j))&&(List.range j).all fun i=>Dx deps ops.length j i||(match ops[i]?,ops[j]? with
  | some x,some y=>Jr x y
  | _,_=>false)
inductive TG (T:Nat->Option AF) (pr:Nat->Option (List V->Option V)) (deps:List (List Nat)) (n:Nat):Nat->List AI->Env->St->List (Nat × St × St)->List (Nat × (St->Prop))->Env->St->Prop
 | nil {k:Nat} {e:Env} {σ:St} {fs:List (Nat × St × St)} {ls:List (Nat × (St->Prop))}:TG T pr deps n k [] e σ fs ls e σ
 | read {k:Nat} {i:AI} {l:List AI} {e e':Env} {σ σ':St} {v:V} {fs:List (Nat × St × St)} {ls:List (Nat × (St->Prop))} (R:St->Prop):R σ->(∀ s,R s->Sg T pr i e s v s)->(∀ j s s1,(j,s,s1)∈fs->Dx deps n k j=true\/(R s1↔R s)) ->
   TG T pr deps n (k+1) l (e.putO i.dst v) σ fs ((k,R)::ls) e' σ'->TG T pr deps n k (i::l) e σ fs ls e' σ'
 | eff {k:Nat} {i:AI} {l:List AI} {e e':Env} {σ σ1 σ':St} {v:V} {fs:List (Nat × St × St)} {ls:List (Nat × (St->Prop))}:Sg T pr i e σ v σ1->(∀ j s s1,(j,s,s1)∈fs->Dx deps n k j=true)->(∀ j R,(j,R)∈ls->Dx deps n k j=true\/(R σ1↔R σ)) ->
   TG T pr deps n (k+1) l (e.putO i.dst v) σ1 ((k,σ,σ1)::fs) ls e' σ'->TG T pr deps n k (i::l) e σ fs ls e' σ'
def Aj1(T:Nat->Option AF)(pr:Nat->Option (List V->Option V))(i:AI)(e:Env)(s s1:St)(v:V):Option (St->Prop)->Prop
 | some R=>s1=s/\R s/\∀ s',R s'->Sg T pr i e s' v s'
 | none=>Sg T pr i e s v s1
structure Sr (T:Nat->Option AF) (pr:Nat->Option (List V->Option V)) (deps:List (List Nat)) (n k:Nat) (l:List AI) (e:Env) (σ:St) (fs:List (Nat × St × St)) (ls:List (Nat × (St->Prop))) (e':Env) (σ':St) (env:Nat->Env) (st:Nat->St) (val:Nat->V) (ro:Nat->Option (St->Prop)):Prop where
 e0:env k=e
 s0:st k=σ
 e1:env (k+l.length)=e'
 s1:st (k+l.length)=σ'
 stp:∀ j i,l[j]?=some i->env (k+j+1)=(env (k+j)).putO i.dst (val (k+j))/\Aj1 T pr i (env (k+j)) (st (k+j)) (st (k+j+1)) (val (k+j)) (ro (k+j))
 d0:∀ a b,a<b->b<l.length->ro (k+a)=none->ro (k+b)=none->Dx deps n (k+b) (k+a)=true
 d4:∀ b j s s1,b<l.length->ro (k+b)=none->(j,s,s1)∈fs->Dx deps n (k+b) j=true
 d1:∀ a b R,a<l.length->b<l.length->ro (k+a)=some R->ro (k+b)=none->Dx deps n (k+a) (k+b)=true\/Dx deps n (k+b) (k+a)=true\/(R (st (k+b+1))↔R (st (k+b)))
 d2:∀ a R j s s1,a<l.length->ro (k+a)=some R->(j,s,s1)∈fs->Dx deps n (k+a) j=true\/(R s1↔R s)
 d3:∀ b j R,b<l.length->ro (k+b)=none->(j,R)∈ls->Dx deps n (k+b) j=true\/(R (st (k+b+1))↔R (st (k+b)))
def Ho{α:Type}(k:Nat)(x:α)(f:Nat->α):Nat->α:=fun m=>if m=k then x else f m
theorem Gi{α:Type}{k:Nat}{x:α}{f:Nat->α}:Ho k x f (k+0)=x:=if_pos rfl
theorem Yv{α:Type}{k:Nat}{x:α}{f:Nat->α}:Ho k x f k=x:=if_pos rfl
theorem D3{α:Type}{k j:Nat}{x:α}{f:Nat->α}:Ho k x f (k+(j+1))=f (k+1+j):=by
 unfold Ho;rw[if_neg (by omega),show k+(j+1)=k+1+j by omega]
theorem Mt{α:Type}{k j:Nat}{x:α}{f:Nat->α}:Ho k x f (k+(j+1)+1)=f (k+1+j+1):=by
 unfold Ho;rw[if_neg (by omega),show k+(j+1)=k+1+j by omega]
theorem Rx{α:Type}{k:Nat}{x:α}{f:Nat->α}:Ho k x f (k+0+1)=f (k+1):=by
 unfold Ho;rw[if_neg (by omega)]
theorem Gz(k j:Nat):k+(j+1)=k+1+j:=by omega
theorem TG.sr{deps:List (List Nat)}{n k:Nat}{l:List AI}{e e':Env}{σ σ':St}{fs:List (Nat × St × St)}{ls:List (Nat × (St->Prop))}(h:TG T pr deps n k l e σ fs ls e' σ'):∃ env st val ro,Sr T pr deps n k l e σ fs ls e' σ' env st val ro:=by
 induction h with
 | @nil k e σ fs ls=>
  exact⟨fun _=>e,fun _=>σ,fun _=>.und,fun _=>none,⟨rfl,rfl,rfl,rfl,fun j i h=>by simp at h,fun a b _ h=>by simp at h,fun b j s s1 h=>by simp at h,fun a b R h=>by simp at h,fun a R j s s1 h=>by simp at h,fun b j R h=>by simp at h⟩⟩
 | @read k i l e e' σ σ' v fs ls R hR hs hchk _ ih=>
  obtain⟨env,st,val,ro,q⟩:=ih;refine⟨Ho k e env,Ho k σ st,Ho k v val,Ho k (some R) ro,⟨Yv,Yv,?_,?_,fun j x hx=>?_,fun a b hab hb h1 h2=>?_,fun b j s s1 hb h1 hin=>?_,fun a b R' ha hb h1 h2=>?_,fun a R' j s s1 ha h1 hin=>?_,fun b j R' hb h1 hin=>?_⟩⟩
  ·rw[Am,D3];exact q.e1
  ·rw[Am,D3];exact q.s1
  ·cases j with
   | zero=>
    simp at hx;subst hx;rw[Gi,Gi,Gi,Gi,Rx,Rx,q.e0,q.s0];exact⟨rfl,rfl,hR,hs⟩
   | succ j=>
    rw[D3,D3,D3,D3,Mt,Mt];exact q.stp j x (by simpa using hx)
  ·cases a with
   | zero=>rw[Gi]at h1;cases h1
   | succ a=>
    cases b with
    | zero=>omega
    | succ b=>
     rw[D3]at h1 h2;rw[Gz k a,Gz k b];exact q.d0 a b (by omega) (by simpa using hb) h1 h2
  ·cases b with
   | zero=>rw[Gi]at h1;cases h1
   | succ b=>
    rw[D3]at h1;rw[Gz];exact q.d4 b j s s1 (by simpa using hb) h1 hin
  ·cases b with
   | zero=>rw[Gi]at h2;cases h2
   | succ b=>
    rw[D3]at h2
    cases a with
    | zero=>
     rw[Gi]at h1;cases h1;have:=q.d3 b k R (by simpa using hb) h2 (by simp);rw[Mt,D3,Gz,Lj];rcases this with h | h
     ·exact .inr (.inl h)
     ·exact .inr (.inr h)
    | succ a=>
     rw[D3]at h1;rw[Mt,D3,Gz k a,Gz k b];exact q.d1 a b R' (by simpa using ha) (by simpa using hb) h1 h2
  ·cases a with
   | zero=>
    rw[Gi]at h1;cases h1;exact hchk j s s1 hin
   | succ a=>
    rw[D3]at h1;rw[Gz];exact q.d2 a R' j s s1 (by simpa using ha) h1 hin
  ·cases b with
   | zero=>rw[Gi]at h1;cases h1
   | succ b=>
    rw[D3]at h1;rw[Mt,D3,Gz];exact q.d3 b j R' (by simpa using hb) h1 (Dz _ hin)
 | @eff k i l e e' σ σ1 σ' v fs ls hs hbef hchk _ ih=>
  obtain⟨env,st,val,ro,q⟩:=ih;refine⟨Ho k e env,Ho k σ st,Ho k v val,Ho k none ro,⟨Yv,Yv,?_,?_,fun j x hx=>?_,fun a b hab hb h1 h2=>?_,fun b j s s1 hb h1 hin=>?_,fun a b R' ha hb h1 h2=>?_,fun a R' j s s1 ha h1 hin=>?_,fun b j R' hb h1 hin=>?_⟩⟩
  ·rw[Am,D3];exact q.e1
  ·rw[Am,D3];exact q.s1
  ·cases j with
   | zero=>
    simp at hx;subst hx;rw[Gi,Gi,Gi,Gi,Rx,Rx,q.e0,q.s0];exact⟨rfl,hs⟩
   | succ j=>
    rw[D3,D3,D3,D3,Mt,Mt];exact q.stp j x (by simpa using hx)
  ·cases b with
   | zero=>omega
   | succ b=>
    rw[D3]at h2
    cases a with
    | zero=>
     rw[Gz,Lj];exact q.d4 b k σ σ1 (by simpa using hb) h2 (by simp)
    | succ a=>
     rw[D3]at h1;rw[Gz k a,Gz k b];exact q.d0 a b (by omega) (by simpa using hb) h1 h2
  ·cases b with
   | zero=>exact hbef j s s1 hin
   | succ b=>
    rw[D3]at h1;rw[Gz];exact q.d4 b j s s1 (by simpa using hb) h1 (Dz _ hin)
  ·cases a with
   | zero=>rw[Gi]at h1;cases h1
   | succ a=>
    rw[D3]at h1
    cases b with
    | zero=>
     have:=q.d2 a R' k σ σ1 (by simpa using ha) h1 (by simp);rw[Rx,Gi,q.s0,Gz,Lj];rcases this with h | h
     ·exact .inl h
     ·exact .inr (.inr h)
    | succ b=>
     rw[D3]at h2;rw[Mt,D3,Gz k a,Gz k b];exact q.d1 a b R' (by simpa using ha) (by simpa using hb) h1 h2
  ·cases a with
   | zero=>rw[Gi]at h1;cases h1
   | succ a=>
    rw[D3]at h1;rw[Gz];exact q.d2 a R' j s s1 (by simpa using ha) h1 (Dz _ hin)
  ·cases b with
   | zero=>
    rw[Rx,Gi,q.s0];exact hchk j R' hin
   | succ b=>
    rw[D3]at h1;rw[Mt,D3,Gz];exact q.d3 b j R' (by simpa using hb) h1 hin
variable {T:Nat->Option AF} {pr:Nat->Option (List V->Option V)}
section
variable {deps:List (List Nat)} {ops:List AI} {e e1:Env} {σ σ1:St} {env:Nat->Env} {st:Nat->St} {val:Nat->V} {ro:Nat->Option (St->Prop)}
structure StaP (deps:List (List Nat)) (ops:List AI):Prop where
 len:deps.length=ops.length
 dep:∀ j,j<ops.length->∀ d∈deps.getD j [],d<j
 pair:∀ i j x y,i<j->ops[i]?=some x->ops[j]?=some y->Dx deps ops.length j i=true\/Jr x y=true
theorem Ait(h:K8 deps ops=true):StaP deps ops:=by
 unfold K8 at h;simp only[Af,beq_iff_eq,Bd,Fc,decide_eq_true_eq,Hb]at h;refine⟨h.1,fun j hj d hd=>(h.2 j hj).1 d hd,fun i j x y hij hx hy=>?_⟩;have hj:j<ops.length:=(Ar.1 hy).1;rcases(h.2 j hj).2 i hij with h' | h'
 ·exact .inl h'
 ·rw[hx,hy]at h';exact .inr h'
theorem Aj2{deps:List (List Nat)}{N:Nat}(hdep:∀ j,j<N->∀ d∈deps.getD j [],d<j):∀ f j c,j<N->Dx deps f j c=true->c<j:=by
 intro f
 induction f with
 | zero=>intro j c _ h;simp[Dx]at h
 | succ f ih=>
  intro j c hj h;simp only[Dx,Li,Hb,beq_iff_eq]at h;obtain⟨d,hd,h⟩:=h;have hdj:=hdep j hj d hd;rcases h with rfl | h
  ·exact hdj
  ·have:=ih d c (by omega) h;omega
theorem Tl(q:Sr T pr deps ops.length 0 ops e σ [] [] e1 σ1 env st val ro):∀ i,i<=ops.length->EnvOK ops val e (fun j=>j<i) (env i)
 | 0,_=>fun t=>.inr ⟨fun j hj=>by omega,by rw[q.e0]⟩
 | i+1,hi=>by
  have ih:=Tl q i (by omega);obtain⟨x,hx⟩:∃ x,ops[i]?=some x:=⟨ops[i],A0 (by omega)⟩;have hs:=(q.stp i x hx).1;simp only[Ez]at hs;rw[hs];exact(ih.put hx (fun j t hj _ _=>hj)).iff (fun j=>by omega)
def Sh(ops:List AI)(ro:Nat->Option (St->Prop))(j:Nat):Prop:=j<ops.length/\ro j=none
theorem J8(q:Sr T pr deps ops.length 0 ops e σ [] [] e1 σ1 env st val ro){α:Sort _}(f:St->α):∀ (d a:Nat),a+d<=ops.length->(∀ k,a<=k->k<a+d->Sh ops ro k->f (st (k+1))=f (st k))->f (st (a+d))=f (st a)
 | 0,a,_,_=>rfl
 | d+1,a,hle,h=>by
  have ih:=J8 q f d a (by omega) (fun k h1 h2=>h k h1 (by omega));rw[<-ih];obtain⟨x,hx⟩:∃ x,ops[a+d]?=some x:=⟨ops[a+d],A0 (by omega)⟩
  cases hc:ro (a+d) with
  | none=>exact h (a+d) (by omega) (by omega) ⟨by omega,hc⟩
  | some R=>
   have:=(q.stp (a+d) x hx).2;simp only[Ez,hc,Aj1]at this;rw[show a+(d+1)=a+d+1 from rfl,this.1]
def Sl(ops:List AI)(ro:Nat->Option (St->Prop))(st:Nat->St)(acc:List Nat)(S':St):Prop:=
 ∃ m,m<=ops.length/\S'=st m/\∀ j,Sh ops ro j->(j<m↔j∈acc)
theorem Aha(hst:StaP deps ops)(q:Sr T pr deps ops.length 0 ops e σ [] [] e1 σ1 env st val ro):∀ (fuel t:Nat) (acc:List Nat) (E:Env) (S':St),acc.length+fuel=ops.length->acc.Nodup->(∀ i∈acc,i<ops.length)->DC deps acc ->
  EnvOK ops val e (·∈acc) E->Sl ops ro st acc S'->∃ E',Ev T pr (.ops (C5 ops (K3 deps fuel t acc)) E S' E' σ1)/\∀ m,E'.get m=e1.get m
 | 0,t,acc,E,S',hl,hn,hlt,hdc,hE,⟨m,hm,hS,heff⟩=>by
  have hall:∀ j,j<ops.length->j∈acc:=fun j hj=>Aj0 hn hlt (by omega) hj
  refine⟨E,?_,fun k=>?_⟩
  ·have hs1:S'=σ1:=by
    rw[hS,<-q.s1,Ez];obtain⟨d,hd⟩:∃ d,m+d=ops.length:=⟨ops.length - m,by omega⟩;rw[<-hd];refine(J8 q id d m (by omega) (fun k h1 h2 he=>?_)).symm;have:=(heff k he).2 (hall k (by omega));omega
   rw[hs1];exact .opsNil
  ·have ht:=Tl q ops.length (Ah _);have he1:=q.e1;rw[Ez]at he1;rw[<-he1];exact hE.same ht (fun j hj=>⟨fun h=>hlt j h,fun h=>hall j h⟩)
 | fuel+1,t,acc,E,S',hl,hn,hlt,hdc,hE,⟨m,hm,hS,heff⟩=>by
  have hsome:∃ j,j<ops.length/\j ∉ acc/\∀ d∈deps.getD j [],d∈acc:=by
   have hex:∃ j,j<ops.length/\j ∉ acc:=by
    rcases Classical.em (∃ j,j<ops.length/\j ∉ acc) with h | h
    ·exact h
    ·exfalso;have hsub:∀ j,j<ops.length->j∈acc:=fun j hj=>Classical.byContradiction fun hc=>h ⟨j,hj,hc⟩
     have h1:=Wt ops.length acc hsub;omega
   have:∀ k,∀ j,j<=k->j<ops.length->j ∉ acc->∃ j,j<ops.length/\j ∉ acc/\∀ d∈deps.getD j [],d∈acc:=by
    intro k
    induction k with
    | zero=>
     intro j hj h1 h2;obtain rfl:j=0:=by omega
     exact⟨0,h1,h2,fun d hd=>absurd (hst.dep 0 h1 d hd) (by omega)⟩
    | succ k ih=>
     intro j hj h1 h2;by_cases hall:∀ d∈deps.getD j [],d∈acc
     ·exact⟨j,h1,h2,hall⟩
     ·obtain⟨d,hd,hda⟩:∃ d,d∈deps.getD j []/\d ∉ acc:=Classical.byContradiction fun hc=>hall fun d hd=>Classical.byContradiction fun hda=>hc ⟨d,hd,hda⟩
      have:=hst.dep j h1 d hd;exact ih d (by omega) (by omega) hda
   obtain⟨j,h1,h2⟩:=hex;exact this j j (Ah _) h1 h2
  unfold K3;generalize hrs:(List.range deps.length).filter (I1 deps acc)=rs
  have hpos:0<rs.length:=by
   obtain⟨j,h1,h2,h3⟩:=hsome
   have:j∈rs:=by
    rw[<-hrs,Qm];refine⟨by rw[Fc,hst.len];exact h1,?_⟩;simp only[I1,Af,H8,Bd];refine⟨?_,fun d hd=>Gb.2 (h3 d hd)⟩
    cases hel:acc.elem j with
    | false=>rfl
    | true=>exact absurd (Gb.1 hel) h2
   exact Zt this
  have hget:rs[t % rs.length]?=some (rs[t % rs.length]'(Mi _ hpos)):=A0 _;generalize rs[t % rs.length]'(Mi _ hpos)=i at hget;rw[hget];have hin:i∈rs:=Gq hget;rw[<-hrs,Qm]at hin;obtain⟨hir,hready⟩:=hin;have hi:i<ops.length:=by rw[Fc,hst.len]at hir;exact hir
  simp only[I1,Af,H8,Bd]at hready;have hia:i ∉ acc:=fun h=>by rw[Gb.2 h]at hready;cases hready.1
  have hdeps:∀ d∈deps.getD i [],d∈acc:=fun d hd=>Gb.1 (hready.2 d hd)
  obtain⟨x,hx⟩:∃ x,ops[i]?=some x:=⟨ops[i],A0 hi⟩
  have hup:∀ j y,i<j->ops[j]?=some y->j∈acc->Jr x y=true:=fun j y hij hy hj=>by
   rcases hst.pair i j x y hij hx hy with h | h
   ·exact absurd (Ns hdc _ j i h hj) hia
   ·exact h
  have hdn:∀ j y,j<i->ops[j]?=some y->j ∉ acc->Jr y x=true:=fun j y hij hy hj=>by
   rcases hst.pair j i y x hij hy hx with h | h
   ·exact absurd (Qw hdc hdeps h) hj
   ·exact h
  have dst_some:∀ {j t:Nat},K6 ops j=some t->∃ y,ops[j]?=some y/\y.dst=some t:=fun {j t} h=>by
   unfold K6 at h
   cases hy:ops[j]? with
   | none=>rw[hy]at h;simp at h
   | some y=>rw[hy]at h;exact⟨y,rfl,by simpa using h⟩
  have hagree:Agree (env i) E x.rd:=fun t ht=>by
   refine(Tl q i (by omega)).same hE (fun j hj=>?_);obtain⟨y,hy,hyd⟩:=dst_some hj;constructor
   ·intro hlt';rcases Classical.em (j∈acc) with h | h
    ·exact h
    ·have:=hdn j y hlt' hy h;simp only[Jr,hyd,Af,H8]at this;have h1:=this.1.1;rw[Gb.2 ht]at h1;cases h1
   ·intro hja;rcases Ow j i with h | h | h
    ·exact h
    ·subst h;exact absurd hja hia
    ·have:=hup j y h hy hja;simp only[Jr,hyd,Af,H8]at this;have h1:=this.2;rw[Gb.2 ht]at h1;cases h1
  obtain⟨henv,hkind⟩:=q.stp i x hx;simp only[Ez]at henv hkind
  have hE':EnvOK ops val e (·∈i::acc) (E.putO x.dst (val i)):=(hE.put hx (fun j t hj hxd hjd=>by
   obtain⟨y,hy,hyd⟩:=dst_some hjd;rcases Ow j i with h | h | h
   ·exact h
   ·subst h;exact absurd hj hia
   ·have:=hup j y h hy hj;simp only[Jr,hxd,hyd,Af,H8]at this;have h1:=this.1.2
    simp at h1)).iff (fun j=>by simp[Be])
  have hdc':DC deps (i::acc):=fun j hj d hd=>by
   rcases Be.1 hj with rfl | hj
   ·exact Dz _ (hdeps d hd)
   ·exact Dz _ (hdc j hj d hd)
  have next:∀ S2,Sl ops ro st (i::acc) S2->Sg T pr x E S' (val i) S2->∃ E',Ev T pr (.ops (C5 ops (i::K3 deps fuel (t / rs.length) (i::acc))) E S' E' σ1)/\∀ m,E'.get m=e1.get m:=fun S2 hS2 hs2=>by
   obtain⟨E',h1,h2⟩:=Aha hst q fuel (t / rs.length) (i::acc) _ S2 (by simp;omega) (Z1.2 ⟨hia,hn⟩) (fun j hj=>by
    rcases Be.1 hj with rfl | hj
    ·exact hi
    ·exact hlt j hj) hdc' hE' hS2
   refine⟨E',?_,h2⟩
   have:C5 ops (i::K3 deps fuel (t / rs.length) (i::acc))=x::C5 ops (K3 deps fuel (t / rs.length) (i::acc)):=by
    unfold C5;rw[Jh,hx]
   rw[this];exact hs2.ev h1
  have hb:=Aj2 hst.dep
  cases hro:ro i with
  | none=>
   rw[hro]at hkind;have hkind:Sg T pr x (env i) (st i) (val i) (st (i+1)):=hkind
   have hflat:∀ k,Sh ops ro k->(k∈acc↔k<i):=fun k ⟨hkl,hk0⟩=>by
    constructor
    ·intro hk;rcases Ow k i with h | h | h
     ·exact h
     ·subst h;exact absurd hk hia
     ·have:=q.d0 i k h hkl (by simpa using hro) (by simpa using hk0);simp only[Ez]at this;exact absurd (Ns hdc _ k i this hk) hia
    ·intro hk;have:=q.d0 k i hk hi (by simpa using hk0) (by simpa using hro);simp only[Ez]at this;exact Qw hdc hdeps this
   have hSi:S'=st i:=by
    rw[hS];rcases Aad m i with hmi | hmi
    ·obtain⟨d,rfl⟩:=Or hmi
     exact(J8 q id d m (by omega) (fun k a1 a2 he=>by
      have:=(heff k he).2 ((hflat k he).2 a2)
      omega)).symm
    ·obtain⟨d,rfl⟩:=Or hmi
     exact J8 q id d i (by omega) (fun k a1 a2 he=>by
      have:=(hflat k he).1 ((heff k he).1 a2)
      omega)
   rw[hSi]at next ⊢
   refine next (st (i+1)) ⟨i+1,by omega,rfl,fun k he=>?_⟩ (hkind.move hagree)
   rw[Be,hflat k he];omega
  | some R=>
   rw[hro]at hkind;obtain⟨hk1,hk2,hk3⟩:st (i+1)=st i/\R (st i)/\∀ s',R s'->Sg T pr x (env i) s' (val i) s':=hkind
   have hS2:Sl ops ro st (i::acc) S':=⟨m,hm,hS,fun k he=>by
    rw[heff k he,Be];constructor
    ·exact .inr
    ·rintro(rfl | h)
     ·rw[he.2]at hro;cases hro
     ·exact h⟩
   refine next S' hS2 ((hk3 S' ?_).move hagree)
   have hone:∀ k,Sh ops ro k->(k∈acc/\i<k\/k ∉ acc/\k<i)->R (st (k+1))=R (st k):=fun k ⟨hkl,hk0⟩ hk=>by
    have hd:=q.d1 i k R hi hkl (by simpa using hro) (by simpa using hk0);simp only[Ez]at hd;rcases hd with h | h | h
    ·have hka:=Qw hdc hdeps h;rcases hk with⟨_,hlt'⟩ | ⟨hk,_⟩
     ·have:=hb _ i k hi h;omega
     ·exact absurd hka hk
    ·rcases hk with⟨hk,_⟩ | ⟨hk,hlt'⟩
     ·exact absurd (Ns hdc _ k i h hk) hia
     ·have:=hb _ k i (by omega) h;omega
    ·exact propext h
   rw[hS];rcases Aad m i with hmi | hmi
   ·obtain⟨d,rfl⟩:=Or hmi
    have:=J8 q R d m (by omega) (fun k a1 a2 he=>hone k he (.inr ⟨fun hka=>by
     have:=(heff k he).2 hka
     omega,a2⟩))
    rw[<-this];exact hk2
   ·obtain⟨d,rfl⟩:=Or hmi
    have:=J8 q R d i (by omega) (fun k a1 a2 he=>by
     have hka:=(heff k he).1 a2;rcases Nat.eq_or_lt_of_le a1 with rfl | h
     ·exact absurd hka hia
     ·exact hone k he (.inl ⟨hka,h⟩))
    rw[this];exact hk2
theorem Ahb(hst:K8 deps ops=true)(h:TG T pr deps ops.length 0 ops e σ [] [] e1 σ1):∃ E2:Nat->Env,(∀ t,Ev T pr (.ops (C5 ops (Mb deps t)) e σ (E2 t) σ1))/\∀ t n,(E2 t).get n=e1.get n:=by
 obtain⟨env,st,val,ro,q⟩:=h.sr;have S:=Ait hst
 have key:∀ t,∃ E',Ev T pr (.ops (C5 ops (Mb deps t)) e σ E' σ1)/\∀ m,E'.get m=e1.get m:=fun t=>by
  have:=Aha S q deps.length t [] e σ (by simp[S.len]) Qo (fun i hi=>by cases hi) (fun j hj=>by cases hj) (fun t=>.inr ⟨(fun j hj=>by cases hj),rfl⟩) ⟨0,A2 _,q.s0.symm,fun j _=>by simp⟩;unfold Mb;rw[Abb];exact this
 exact⟨fun t=>(key t).choose,fun t=>(key t).choose_spec.1,fun t=>(key t).choose_spec.2⟩
end
variable {T:Nat->Option AF} {pr:Nat->Option (List V->Option V)}
mutual
def V.eqv:V->V->Bool
 | .und,.und=>true
 | .skp,.skp=>true
 | .bool a,.bool b=>a==b
 | .int k n,.int k' m=>decide (k=k')&&decide (n=m)
 | .str a,.str b=>decide (a=b)
 | .nili,.nili=>true
 | .ifc,.ifc=>true
 | .nils,.nils=>true
 | .nilp,.nilp=>true
 | .nilf,.nilf=>true
 | .lst t xs,.lst t' ys=>decide (t=t')&&U7 xs ys
 | .imm r o,.imm r' o'=>decide (o=o')&&Lc r r'
 | .ptr i g o,.ptr i' g' o'=>decide (i=i')&&(decide (g=g')&&decide (o=o'))
 | .sl i g o l m w,.sl i' g' o' l' m' w'=>decide (i=i')&&(decide (g=g')&&(decide (o=o')&&(decide (l=l')&&(decide (m=m')&&w==w'))))
 | .fn f a c,.fn f' a' c'=>decide (f=f')&&(Lc a a'&&Lc c c')
 | .mp i,.mp i'=>decide (i=i')
 | .agg a,.agg b=>Lc a b
 | .tup a,.tup b=>Lc a b
 | _,_=>false
def Lc:List V->List V->Bool
 | [],[]=>true
 | a::r,b::s=>a.eqv b&&Lc r s
 | _,_=>false
def U7:List (List V)->List (List V)->Bool
 | [],[]=>true
 | a::r,b::s=>Lc a b&&U7 r s
 | _,_=>false
end
mutual
theorem Uu:∀ {a b:V},a.eqv b=true->a=b
 | .und,b,h=>by cases b<;>simp[V.eqv]at h<;>rfl
 | .skp,b,h=>by cases b<;>simp[V.eqv]at h<;>rfl
 | .bool _,b,h=>by cases b<;>simp[V.eqv]at h;rw[h]
 | .int _ _,b,h=>by cases b<;>simp[V.eqv]at h;rw[h.1,h.2]
 | .str _,b,h=>by cases b<;>simp[V.eqv]at h;rw[h]
 | .nili,b,h=>by cases b<;>simp[V.eqv]at h<;>rfl
 | .ifc,b,h=>by cases b<;>simp[V.eqv]at h<;>rfl
 | .nils,b,h=>by cases b<;>simp[V.eqv]at h<;>rfl
 | .nilp,b,h=>by cases b<;>simp[V.eqv]at h<;>rfl
 | .nilf,b,h=>by cases b<;>simp[V.eqv]at h<;>rfl
 | .lst _ _,b,h=>by cases b<;>simp[V.eqv]at h;rw[h.1,Ahc h.2]
 | .imm _ _,b,h=>by cases b<;>simp[V.eqv]at h;rw[h.1,Nt h.2]
 | .ptr _ _ _,b,h=>by cases b<;>simp[V.eqv]at h;rw[h.1,h.2.1,h.2.2]
 | .sl _ _ _ _ _ _,b,h=>by cases b<;>simp[V.eqv]at h;rw[h.1,h.2.1,h.2.2.1,h.2.2.2.1,h.2.2.2.2.1,h.2.2.2.2.2]
 | .fn _ _ _,b,h=>by cases b<;>simp[V.eqv]at h;rw[h.1,Nt h.2.1,Nt h.2.2]
 | .mp _,b,h=>by cases b<;>simp[V.eqv]at h;rw[h]
 | .agg _,b,h=>by cases b<;>simp[V.eqv]at h;rw[Nt h]
 | .tup _,b,h=>by cases b<;>simp[V.eqv]at h;rw[Nt h]
theorem Nt:∀ {a b:List V},Lc a b=true->a=b
 | [],b,h=>by cases b<;>simp[Lc]at h;rfl
 | _::_,b,h=>by cases b<;>simp[Lc]at h;rw[Uu h.1,Nt h.2]
theorem Ahc:∀ {a b:List (List V)},U7 a b=true->a=b
 | [],b,h=>by cases b<;>simp[U7]at h;rfl
 | _::_,b,h=>by cases b<;>simp[U7]at h;rw[Nt h.1,Ahc h.2]
end
def Pz(deps:List (List Nat)):Nat->Nat->Nat->Bool
 | 0,_,_=>false
 | f+1,j,i=>(deps.getD j []).any fun d=>d==i||(decide (i<d)&&Pz deps f d i)
theorem Xc{deps:List (List Nat)}:∀ {f j i:Nat},Pz deps f j i=true->Dx deps f j i=true
 | 0,_,_,h=>by simp[Pz]at h
 | f+1,j,i,h=>by
  simp only[Pz,Dx,Li,Hb,Af]at h ⊢;obtain⟨d,hd,h⟩:=h;exact⟨d,hd,h.imp id fun h=>Xc h.2⟩
inductive RD where
 | ev (op:AO) (e:Env) (v:V)
 | ov (args vs:List V)
def Adt:AO->Bool
 | .load _ _ _ | .mlk _ _ _=>true
 | _=>false
theorem Aas{op:AO}(h:Adt op=true){e:Env}{σ σ1:St}{v:V}(hv:Ae op e σ=some (v,σ1)):σ1=σ:=by
 cases op with
 | load n one x=>
  simp only[Ae,Bm]at hv;obtain⟨_,_,h⟩:=hv;cases h;rfl
 | mlk z x k=>
  simp only[Ae]at hv
  split at hv
  ·split at hv
   ·cases hv;rfl
   ·cases hv
  ·cases hv
 | _=>cases h
def RD.R:RD->St->Prop
 | .ev op e v,s=>Ae op e s=some (v,s)
 | .ov args vs,s=>C6 s args=some vs
def Ac0:Option (V × St)->Option (V × St)->Bool
 | some a,some b=>a.1.eqv b.1
 | _,_=>false
def Ac1:Option (List V)->Option (List V)->Bool
 | some a,some b=>Lc a b
 | _,_=>false
def RD.same:RD->St->St->Bool
 | .ev op e _,s,s1=>Adt op&&Ac0 (Ae op e s) (Ae op e s1)
 | .ov args _,s,s1=>Ac1 (C6 s args) (C6 s1 args)
theorem RD.same_ok{r:RD}{s s1:St}(h:r.same s s1=true):r.R s1↔r.R s:=by
 cases r with
 | ev op e v=>
  simp only[RD.same,Af]at h;simp only[RD.R];obtain⟨h0,h⟩:=h
  cases h1:Ae op e s with
  | none=>rw[h1]at h;simp[Ac0]at h
  | some a=>
   cases h2:Ae op e s1 with
   | none=>rw[h1,h2]at h;simp[Ac0]at h
   | some b=>
    rw[h1,h2]at h;have:=Uu h;obtain⟨a1,a2⟩:=a;obtain⟨b1,b2⟩:=b;obtain rfl:=Aas h0 h1;obtain rfl:=Aas h0 h2;simp only at this;subst this;simp
 | ov args vs=>
  simp only[RD.same]at h;simp only[RD.R]
  cases h1:C6 s args with
  | none=>rw[h1]at h;simp[Ac1]at h
  | some a=>
   cases h2:C6 s1 args with
   | none=>rw[h1,h2]at h;simp[Ac1]at h
   | some b=>
    rw[h1,h2]at h;rw[Nt h]
abbrev Zl:=List (Nat × St × St)
abbrev Rds:=List (Nat × RD)
def Al1(deps:List (List Nat))(n k:Nat)(fs:Zl)(r:RD):Bool:=fs.all fun p=>Pz deps n k p.1||r.same p.2.1 p.2.2
def Adu(deps:List (List Nat))(n k:Nat)(fs:Zl)(ls:Rds)(σ σ1:St):Bool:=(fs.all fun p=>Pz deps n k p.1)&&ls.all fun p=>Pz deps n k p.1||p.2.same σ σ1
def Yw(T:Nat->Option AF)(pr:Nat->Option (List V->Option V))(f:Nat):Bool:=
 match pr f with
 | some _=>true
 | none=>match T f with
  | some F=>!F.thr
  | none=>false
def Ac2(T:Nat->Option AF)(pr:Nat->Option (List V->Option V))(i:AI)(e:Env)(σ:St)(v:V):Nat × RD:=
 if Ut i.op then(match Bt e i.op with
  | some (f,args)=>if Yw T pr f then(if(Aj args).isEmpty then(0,.ov args []) else if v.flatV then(1,.ov args ((C6 σ args).getD [])) else(2,.ov [] [])) else(2,.ov [] [])
  | none=>(2,.ov [] []))
 else if Ew T pr i.op==0 then(0,.ov [] []) else if Adt i.op then(1,.ev i.op e v) else(2,.ov [] [])
def L8(T:Nat->Option AF)(pr:Nat->Option (List V->Option V))(rf:Bool->Lb)(deps:List (List Nat))(n:Nat):Nat->List AI->Env->St->Zl->Rds->Option (Env × St)
 | _,[],e,σ,_,_=>some (e,σ)
 | k,i::l,e,σ,fs,ls=>match Cg e i with
  | some true=>(P6 rf false i.op e σ).bind fun p=>match Ac2 T pr i e σ p.1 with
   | (0,_)=>L8 T pr rf deps n (k+1) l (e.putO i.dst p.1) σ fs ls
   | (1,r)=>if Al1 deps n k fs r then L8 T pr rf deps n (k+1) l (e.putO i.dst p.1) σ fs ((k,r)::ls) else none
   | (_,_)=>if Adu deps n k fs ls σ p.2 then L8 T pr rf deps n (k+1) l (e.putO i.dst p.1) p.2 ((k,σ,p.2)::fs) ls else none
  | some false=>L8 T pr rf deps n (k+1) l (e.putO i.dst .skp) σ fs ls
  | none=>none
def Alb(T:Nat->Option AF)(pr:Nat->Option (List V->Option V))(rc:G6)(rf:Bool->Lb):G6:=fun k e σ=>
 match k with
 | []=>some (e,σ)
 | .b _::k=>rc k e σ
 | .l keep c::k=>rc (.c c::.l keep c::k) (e.keep keep) σ
 | .c c::k=>match c with
  | .skip=>rc k e σ
  | .reg kill ops=>(L7 rf false ops e σ).bind fun p=>rc k (p.1.del kill) p.2
  | .drw kill deps ops=>(L8 T pr rf deps ops.length 0 ops e σ [] []).bind fun p=>rc k (p.1.del kill) p.2
  | .seq a b=>rc (.c a::.c b::k) e σ
  | .cond c kill x y=>(Acy (Ab e c)).bind fun z=>rc (.c (if z then x else y)::k) (e.del kill) σ
  | .blk id c=>rc (.c c::.b id::k) e σ
  | .loop keep c=>rc (.l keep c::k) e σ
  | .exit id=>(exitTo id k).bind fun k'=>rc k' e σ
  | .ret=>some (e,σ)
def Jz(T:Nat->Option AF)(pr:Nat->Option (List V->Option V)):Nat->G6
 | 0=>fun _ _ _=>none
 | n+1=>Alb T pr (Jz T pr n) (K7 T pr (Jz T pr n))
variable {T:Nat->Option AF} {pr:Nat->Option (List V->Option V)}
def Ik:AC->Bool
 | .drw _ deps ops=>K8 deps ops
 | .seq a b=>Ik a&&Ik b
 | .cond _ _ a b=>Ik a&&Ik b
 | .blk _ c=>Ik c
 | .loop _ c=>Ik c
 | _=>true
def Il:It->Bool
 | .c c=>Ik c
 | .b _=>true
 | .l _ c=>Ik c
theorem Wj{id:Nat}:∀ {k k':List It},exitTo id k=some k'->k.all (Il)=true->k'.all (Il)=true
 | [],_,h,_=>by cases h
 | .b i::k,k',h,hk=>by
  simp only[exitTo]at h;simp only[Au,Af]at hk
  split at h
  ·cases h;exact hk.2
  ·exact Wj h hk.2
 | .c c::k,k',h,hk=>by
  simp only[exitTo]at h;simp only[Au,Af]at hk;exact Wj h hk.2
 | .l ks c::k,k',h,hk=>by
  simp only[exitTo]at h;simp only[Au,Af]at hk;exact Wj h hk.2
section
variable (hst:∀ f F,T f=some F->F.spec=none->Ik F.body=true)
theorem Abc{rc:G6}(ih:∀ k e σ e' σ',k.all (Il)=true->rc k e σ=some (e',σ')->Ev T pr (.code k e σ e' σ')){f:Nat}{F:AF}(hT:T f=some F)(hsp:F.spec=none)(hc:Ik F.body=true){vs:List V}{σ σ':St}{v:V}(h:H0 rc F vs σ=some (v,σ')):Ev T pr (.fn f vs σ v σ'):=by
 unfold H0 at h
 split at h
 ·rename_i hl;obtain⟨⟨e1,σ1⟩,hp,h⟩:=C9.1 h;unfold Al0 at h;obtain⟨v',hv,h⟩:=C9.1 h;have hE:=ih _ _ _ _ _ (by simp[Il,hc]) hp;rcases Ap1 h with⟨h1,h2,h3,rfl,rfl⟩ | ⟨js,h1,rfl,rfl⟩
  ·exact .fn hT hsp hl hE hv h1 h2 (fun i ob hi ho=>.inr (h3 i ob hi ho))
  ·exact .fnL hT hsp hl hE hv h1
 ·cases h
include hst in
theorem Ahd{rc:G6}(ih:∀ k e σ e' σ',k.all (Il)=true->rc k e σ=some (e',σ')->Ev T pr (.code k e σ e' σ')){s:Bool}{f:Nat}{args:List V}{σ σ1:St}{v:V}(h:K7 T pr rc s f args σ=some (v,σ1)):CallR T pr s f args σ v σ1:=by
 unfold K7 at h
 have strict:∀ {s:Bool},¬ ((s&&!(Aj args).isEmpty)=true)->s=true->Aj args=[]:=fun {s} h1 h2=>by
  subst h2;simpa using h1
 split at h
 ·rename_i q hq
  split at h
  ·cases h
  ·rename_i hs;obtain⟨ws,hx,h⟩:=C9.1 h;obtain⟨v',hv,h⟩:=Bm.1 h;cases h;exact .prim hq (strict hs) hx hv
 ·rename_i hq
  split at h
  ·cases h
  ·rename_i F hT
   split at h
   ·rename_i q ht hsp;exact .spec hq hT ht hsp h
   ·rename_i ht hsp;exact .thr hq hT ht hsp (Abc ih hT hsp (hst _ _ hT hsp) h)
   ·rename_i ht hsp
    split at h
    ·cases h
    ·rename_i hs;unfold U6 at h;obtain⟨ws,hx,h⟩:=C9.1 h;obtain⟨⟨v0,σ0⟩,hb,h⟩:=C9.1 h;obtain⟨v',hv,h⟩:=Bm.1 h;cases h;exact .pure (strict hs) hx ⟨F,hT,ht,hsp,v0,σ0,Abc ih hT hsp (hst _ _ hT hsp) hb,hv⟩
   ·cases h
include hst in
theorem Abp{rc:G6}(ih:∀ k e σ e' σ',k.all (Il)=true->rc k e σ=some (e',σ')->Ev T pr (.code k e σ e' σ')):∀ {l:List AI} {e e':Env} {σ σ':St},L7 (K7 T pr rc) false l e σ=some (e',σ')->Ev T pr (.ops l e σ e' σ')
 | [],e,e',σ,σ',h=>by cases h;exact .opsNil
 | i::l,e,e',σ,σ',h=>by
  unfold L7 at h
  split at h
  ·rename_i hw;obtain⟨⟨v,σ1⟩,hp,h⟩:=C9.1 h;have hE:=Abp ih h;rcases Ais hp with⟨_,hv⟩ | ⟨f,args,hc,hf,_⟩
   ·exact .opsVal hw hv hE
   ·cases Ahd hst ih hf with
    | prim h1 _ h2 h3=>exact .opsPrim hw hc h1 h2 h3 hE
    | pure _ h2 h3=>
     obtain⟨F,hT,ht,hsp,v0,σ0,h4,h5⟩:=h3;exact .opsPure hw hc hT ht hsp h2 h4 h5 hE
    | thr _ hT ht hsp h4=>exact .opsThr hw hc hT ht hsp h4 hE
    | spec _ hT ht hsp h4=>exact .opsSpec hw hc hT ht hsp h4 hE
  ·rename_i hw;exact .opsSkip hw (Abp ih h)
  ·cases h
include hst in
theorem Xn{rc:G6}(ih:∀ k e σ e' σ',k.all Il=true->rc k e σ=some (e',σ')->Ev T pr (.code k e σ e' σ')){deps:List (List Nat)}{n:Nat}:∀ {l:List AI} {k:Nat} {e e':Env} {σ σ':St} {fs:Zl} {ls:Rds} {ls':List (Nat × (St->Prop))},L8 T pr (K7 T pr rc) deps n k l e σ fs ls=some (e',σ') ->
  (∀ j s s1,(j,s,s1)∈fs->True)->(∀ j R,(j,R)∈ls'->(∀ s,R s)\/∃ r,(j,r)∈ls/\R=RD.R r)->TG T pr deps n k l e σ fs ls' e' σ'
 | [],k,e,e',σ,σ',fs,ls,ls',h,_,_=>by cases h;exact .nil
 | i::l,k,e,e',σ,σ',fs,ls,ls',h,hfs,hls=>by
  unfold L8 at h
  have free:∀ {v:V},(∀ s,Sg T pr i e s v s)->L8 T pr (K7 T pr rc) deps n (k+1) l (e.putO i.dst v) σ fs ls=some (e',σ')->TG T pr deps n k (i::l) e σ fs ls' e' σ':=fun {v} hs h=>
   .read (fun _=>True) trivial (fun s _=>hs s) (fun _ _ _ _=>.inr Iff.rfl) (Xn ih h (fun _ _ _ _=>trivial) (fun j R hm=>by
    rcases Be.1 hm with hm | hm
    ·cases hm;exact .inl fun _=>trivial
    ·exact hls j R hm))
  split at h
  ·rename_i hw;obtain⟨⟨v,σ1⟩,hp,h⟩:=C9.1 h
   have rdr:∀ {r:RD},RD.R r σ->(∀ s,RD.R r s->Sg T pr i e s v s)->Al1 deps n k fs r=true->L8 T pr (K7 T pr rc) deps n (k+1) l (e.putO i.dst v) σ fs ((k,r)::ls)=some (e',σ')->TG T pr deps n k (i::l) e σ fs ls' e' σ':=fun {r} h0 hs hok h=>
    .read (RD.R r) h0 hs (fun j s s1 hm=>by
     have:=Bd.1 hok _ hm;simp only[Hb]at this
     exact this.imp Xc RD.same_ok) (Xn ih h (fun _ _ _ _=>trivial) (fun j R hm=>by
      rcases Be.1 hm with hm | hm
      ·cases hm;exact .inr ⟨r,Ec,rfl⟩
      ·exact(hls j R hm).imp id fun⟨r',h1,h2⟩=>⟨r',Dz _ h1,h2⟩))
   have eff:Sg T pr i e σ v σ1->Adu deps n k fs ls σ σ1=true->L8 T pr (K7 T pr rc) deps n (k+1) l (e.putO i.dst v) σ1 ((k,σ,σ1)::fs) ls=some (e',σ')->TG T pr deps n k (i::l) e σ fs ls' e' σ':=fun hs hok h=>by
    unfold Adu at hok;simp only[Af]at hok;refine .eff hs (fun j s s1 hm=>Xc (Bd.1 hok.1 _ hm)) (fun j R hm=>?_) (Xn ih h (fun _ _ _ _=>trivial) hls);rcases hls j R hm with h' | ⟨r,h1,rfl⟩
    ·exact .inr ⟨fun _=>h' _,fun _=>h' _⟩
    ·have:=Bd.1 hok.2 _ h1;simp only[Hb]at this;exact this.imp Xc RD.same_ok
   rcases Ais hp with⟨hnc,hv⟩ | ⟨f,args,hc,hf,_⟩
   ·have hs:Sg T pr i e σ v σ1:=.val hw hv;unfold Ac2 at h;rw[hnc]at h;simp only[Er,if_false]at h
    split at h
    ·rename_i hk
     split at hk
     ·rename_i h0;refine free (fun s=>.val hw ((Wn (by simpa using h0) hv).2 s)) h
     ·split at hk
      ·cases hk
      ·cases hk
    ·rename_i r hk
     split at hk
     ·cases hk
     ·split at hk
      ·rename_i hr;cases hk
       split at h
       ·rename_i hok;obtain rfl:=Aas hr hv;exact rdr (r:=.ev i.op e v) hv (fun s hs=>.val hw hs) hok h
       ·cases h
      ·cases hk
    ·split at h
     ·rename_i hok;exact eff hs hok h
     ·cases h
   ·have hcr:=Ahd hst ih hf
    have hs:Sg T pr i e σ v σ1:=by
     cases hcr with
     | prim h1 _ h2 h3=>exact .prim hw hc h1 h2 h3
     | pure _ h2 h3=>exact .pure hw hc h2 h3
     | thr _ hT ht hsp h4=>exact .thr hw hc hT ht hsp h4
     | spec _ hT ht hsp h4=>exact .spec hw hc hT ht hsp h4
    have hic:Ut i.op=true:=by
     cases hop:i.op with
     | call=>rfl
     | callv=>rfl
     | _=>rw[hop]at hc;simp[Bt]at hc
    unfold Ac2 at h;rw[hic]at h;simp only[if_true,hc]at h;by_cases hcalm:Yw T pr f=true
    ·rw[if_pos hcalm]at h
     have hcr':σ1=after σ args v/\∃ vs,C6 σ args=some vs/\∀ s,C6 s args=some vs->after s args v=s->Sg T pr i e s v s:=by
      cases hcr with
      | prim h1 _ h2 h3=>exact⟨rfl,_,h2,fun s ho ha=>by have:=Sg.prim (T:=T) hw hc h1 ho h3;rw[ha]at this;exact this⟩
      | pure _ h2 h3=>exact⟨rfl,_,h2,fun s ho ha=>by have:=Sg.pure hw hc ho h3;rw[ha]at this;exact this⟩
      | thr hq hT ht hsp h4=>simp[Yw,hq,hT,ht]at hcalm
      | spec hq hT ht hsp h4=>simp[Yw,hq,hT,ht]at hcalm
     obtain⟨hσ1,vs,hov,hall⟩:=hcr';by_cases hrefs:(Aj args).isEmpty=true
     ·rw[if_pos hrefs]at h;have hn:Aj args=[]:=by simpa using hrefs
      exact free (fun s=>hall s ((Xb hn s).trans hov) (Qv hn v)) h
     ·rw[if_neg hrefs]at h;by_cases hfl:v.flatV=true
      ·rw[if_pos hfl]at h;rw[hov]at h;simp only[Wa]at h
       split at h
       ·rename_i hok;exact rdr (r:=.ov args vs) hov (fun s hs=>hall s hs (by unfold after;rw[if_pos hfl])) hok h
       ·cases h
      ·rw[if_neg hfl]at h;simp only at h
       split at h
       ·rename_i hok;exact eff hs hok h
       ·cases h
    ·rw[if_neg hcalm]at h;simp only at h
     split at h
     ·rename_i hok;exact eff hs hok h
     ·cases h
  ·rename_i hw;exact free (fun s=>.off hw) h
  ·cases h
include hst in
theorem Aiu:∀ (n:Nat) (k:List It) (e:Env) (σ:St) (e':Env) (σ':St),k.all (Il)=true->Jz T pr n k e σ=some (e',σ')->Ev T pr (.code k e σ e' σ')
 | 0,_,_,_,_,_,_,h=>by cases h
 | n+1,k,e,σ,e',σ',hk,h=>by
  have ih:=Aiu n;simp only[Jz]at h;unfold Alb at h
  split at h
  ·cases h;exact .cNil
  ·simp only[Au,Af]at hk;exact .cEnd (ih _ _ _ _ _ hk.2 h)
  ·simp only[Au,Af]at hk;exact .cAgain (ih _ _ _ _ _ (by simp only[Au,Af];exact⟨hk.1,hk⟩) h)
  ·simp only[Au,Af]at hk;obtain⟨hc,hk⟩:=hk
   split at h
   ·exact .cSkip (ih _ _ _ _ _ hk h)
   ·obtain⟨⟨e1,σ1⟩,hp,h⟩:=C9.1 h;exact .cReg (Abp hst ih hp) (ih _ _ _ _ _ hk h)
   ·rename_i kill deps ops;obtain⟨⟨e1,σ1⟩,hp,h⟩:=C9.1 h;have hc':K8 deps ops=true:=hc;obtain⟨E2,h1,h2⟩:=Ahb hc' (Xn hst ih hp (fun _ _ _ h=>by cases h) (fun _ _ h=>by cases h));exact .cDrw E2 h1 h2 (ih _ _ _ _ _ hk h)
   ·simp only[Il,Ik,Af]at hc;exact .cSeq (ih _ _ _ _ _ (by simp only[Au,Af,Il];exact⟨hc.1,hc.2,hk⟩) h)
   ·obtain⟨z,hz,h⟩:=C9.1 h;simp only[Il,Ik,Af]at hc;refine .cCond (z:=z) ?_ (ih _ _ _ _ _ (by simp only[Au,Af,Il];refine⟨?_,hk⟩;cases z;exact hc.2;exact hc.1) h);unfold Acy at hz
    split at hz
    ·rename_i hb;cases hz;exact hb
    ·cases hz
   ·exact .cBlk (ih _ _ _ _ _ (by simp only[Au,Af,Il];exact⟨hc,trivial,hk⟩) h)
   ·exact .cLoop (ih _ _ _ _ _ (by simp only[Au,Af,Il];exact⟨hc,hk⟩) h)
   ·obtain⟨k',hx,h⟩:=C9.1 h;exact .cExit hx (ih _ _ _ _ _ (Wj hx hk) h)
   ·cases h;exact .cRet
include hst in
theorem Mo{n f:Nat}{F:AF}(hT:T f=some F)(ht:F.thr=false)(hsp:F.spec=none){vs:List V}{v:V}(h:((H0 (Jz T pr n) F vs []).bind fun p=>Dw p.2 p.1)=some v):Fn T pr f vs v:=by
 obtain⟨⟨v0,σ0⟩,hb,h⟩:=C9.1 h;exact⟨F,hT,ht,hsp,v0,σ0,Abc (fun _ _ _ _ _ hk h=>Aiu hst n _ _ _ _ _ hk h) hT hsp (hst _ _ hT hsp) hb,h⟩
end
variable {T:Nat->Option AF} {pr:Nat->Option (List V->Option V)}
abbrev Fs:=List (Nat × St × St)
abbrev Ls:=List (Nat × (St->Prop))
def WG(T:Nat->Option AF)(pr:Nat->Option (List V->Option V))(deps:List (List Nat))(n k:Nat)(l:List AI)(e:Env)(σ:St)(fs:Fs)(ls:Ls)(Q:Env->St->Prop):Prop:=∃ e' σ',TG T pr deps n k l e σ fs ls e' σ'/\Q e' σ'
def Sm(deps:List (List Nat))(n k:Nat)(R:St->Prop):Fs->Prop
 | []=>True
 | (j,s,s1)::r=>(Dx deps n k j=true\/(R s/\R s1))/\Sm deps n k R r
def M8(deps:List (List Nat))(n k:Nat):Fs->Prop
 | []=>True
 | (j,_,_)::r=>Dx deps n k j=true/\M8 deps n k r
def M9(deps:List (List Nat))(n k:Nat)(σ σ1:St):Ls->Prop
 | []=>True
 | (j,R)::r=>(Dx deps n k j=true\/(R σ/\R σ1))/\M9 deps n k σ σ1 r
theorem Abq{deps:List (List Nat)}{n k:Nat}{R:St->Prop}:∀ {fs:Fs},Sm deps n k R fs->∀ j s s1,(j,s,s1)∈fs->Dx deps n k j=true\/(R s1↔R s)
 | [],_,_,_,_,h=>by cases h
 | _::_,h,j,s,s1,hm=>by
  rcases Be.1 hm with rfl | hm
  ·exact h.1.imp id fun h=>⟨fun _=>h.1,fun _=>h.2⟩
  ·exact Abq h.2 j s s1 hm
theorem Aiv{deps:List (List Nat)}{n k:Nat}:∀ {fs:Fs},M8 deps n k fs->∀ j s s1,(j,s,s1)∈fs->Dx deps n k j=true
 | [],_,_,_,_,h=>by cases h
 | _::_,h,j,s,s1,hm=>by
  rcases Be.1 hm with rfl | hm
  ·exact h.1
  ·exact Aiv h.2 j s s1 hm
theorem Aiw{deps:List (List Nat)}{n k:Nat}{σ σ1:St}:∀ {ls:Ls},M9 deps n k σ σ1 ls->∀ j R,(j,R)∈ls->Dx deps n k j=true\/(R σ1↔R σ)
 | [],_,_,_,h=>by cases h
 | _::_,h,j,R,hm=>by
  rcases Be.1 hm with rfl | hm
  ·exact h.1.imp id fun h=>⟨fun _=>h.1,fun _=>h.2⟩
  ·exact Aiw h.2 j R hm
section
variable {Q:Env->St->Prop} {e:Env} {σ:St} {k:List It}
theorem Avy{kill:List Nat}{deps:List (List Nat)}{ops:List AI}(hst:K8 deps ops=true)(h:∀ K:Env->St->Prop,(∀ e1 σ1,W T pr k (e1.del kill) σ1 Q->K e1 σ1)->WG T pr deps ops.length 0 ops e σ [] [] K):W T pr (.c (.drw kill deps ops)::k) e σ Q:=by
 obtain⟨e1,σ1,hT,e',σ',h2,q⟩:=h _ fun _ _ h=>h
 obtain⟨E2,g1,g2⟩:=Ahb hst hT;exact⟨e',σ',.cDrw E2 g1 g2 h2,q⟩
variable {deps:List (List Nat)} {n m:Nat} {l:List AI} {fs:Fs} {ls:Ls}
theorem Avz(q:Q e σ):WG T pr deps n m [] e σ fs ls Q:=⟨e,σ,.nil,q⟩
theorem X6{i:AI}{v:V}(hs:∀ s,Sg T pr i e s v s)(h:WG T pr deps n (m+1) l (e.putO i.dst v) σ fs ls Q):WG T pr deps n m (i::l) e σ fs ls Q:=by
 obtain⟨e',σ',h,q⟩:=h;refine⟨e',σ',.read (fun _=>True) trivial (fun s _=>hs s) (fun _ _ _ _=>.inr Iff.rfl) ?_,q⟩
 have more:∀ {k:Nat} {l:List AI} {e e':Env} {σ σ':St} {fs:Fs} {ls:Ls},TG T pr deps n k l e σ fs ls e' σ'->∀ ls',(∀ j R,(j,R)∈ls'->(∀ s,R s)\/(j,R)∈ls)->TG T pr deps n k l e σ fs ls' e' σ':=by
  intro k l e e' σ σ' fs ls h
  induction h with
  | nil=>exact fun _ _=>.nil
  | read R h1 h2 h3 _ ih=>
   exact fun ls' hl=>.read R h1 h2 h3 (ih _ fun j R' hm=>by
    rcases Be.1 hm with hm | hm
    ·exact .inr (by rw[hm];exact Ec)
    ·exact(hl j R' hm).imp id fun h=>Dz _ h)
  | eff h1 h2 h3 _ ih=>
   exact fun ls' hl=>.eff h1 h2 (fun j R hm=>by
    rcases hl j R hm with h | h
    ·exact .inr ⟨fun _=>h _,fun _=>h _⟩
    ·exact h3 j R h) (ih _ hl)
 exact more h _ fun j R hm=>by
  rcases Be.1 hm with hm | hm
  ·cases hm;exact .inl fun _=>trivial
  ·exact .inr hm
theorem Av0{i:AI}{v:V}(hg:Cg e i=some true)(hv:∀ s,Ae i.op e s=some (v,s))(h:WG T pr deps n (m+1) l (e.putO i.dst v) σ fs ls Q):WG T pr deps n m (i::l) e σ fs ls Q:=X6 (fun s=>.val hg (hv s)) h
theorem Azc{i:AI}{v:V}(hg:Cg e i=some true)(hv:Ae i.op e σ=some (v,σ))(hc:Sm deps n m (fun s=>Ae i.op e s=some (v,s)) fs)(h:WG T pr deps n (m+1) l (e.putO i.dst v) σ fs ((m,fun s=>Ae i.op e s=some (v,s))::ls) Q):WG T pr deps n m (i::l) e σ fs ls Q:=by
 obtain⟨e',σ',h,q⟩:=h;exact⟨e',σ',.read (fun s=>Ae i.op e s=some (v,s)) hv (fun s hs=>.val hg hs) (Abq hc) h,q⟩
theorem Aj3{i:AI}{v:V}{σ1:St}(hs:Sg T pr i e σ v σ1)(h1:M8 deps n m fs)(h2:M9 deps n m σ σ1 ls)(h:WG T pr deps n (m+1) l (e.putO i.dst v) σ1 ((m,σ,σ1)::fs) ls Q):WG T pr deps n m (i::l) e σ fs ls Q:=by
 obtain⟨e',σ',h,q⟩:=h;exact⟨e',σ',.eff hs (Aiv h1) (Aiw h2) h,q⟩
theorem Av1{i:AI}{v:V}{σ1:St}(hg:Cg e i=some true)(hv:Ae i.op e σ=some (v,σ1))(h1:M8 deps n m fs)(h2:M9 deps n m σ σ1 ls)(h:WG T pr deps n (m+1) l (e.putO i.dst v) σ1 ((m,σ,σ1)::fs) ls Q):WG T pr deps n m (i::l) e σ fs ls Q:=Aj3 (.val hg hv) h1 h2 h
end
section
variable {Q:Env->St->Prop} {e:Env} {σ:St} {k:List It} {l:List AI}
end
theorem Bi{Q:Env->St->Prop}{e e':Env}{σ:St}{k:List It}{keep:List Nat}{c:AC}(h:W T pr (.l keep c::k) e' σ Q)(hk:e.keep keep=e'.keep keep):W T pr (.l keep c::k) e σ Q:=by
 obtain⟨e1,σ1,h,q⟩:=h
 cases h with
 | cAgain h=>exact⟨e1,σ1,.cAgain (hk ▸ h),q⟩
theorem Av2(k:IntKind)(n:Int):V.cellB (.int k n)=true:=rfl
theorem Av3(k:IntKind)(n:Int):V.rowB (.int k n)=true:=rfl
theorem Av4(l:List UInt8):V.cellB (.str l)=true:=rfl
theorem Av5(l:List UInt8):V.rowB (.str l)=true:=rfl
theorem As0(b:Bool):V.cellB (.bool b)=true:=rfl
theorem As1(b:Bool):V.rowB (.bool b)=true:=rfl
theorem As2:V.cellB V.nils=true:=rfl
theorem As3:V.rowB V.nils=true:=rfl
theorem As4:V.cellB V.nili=true:=rfl
theorem As5:V.rowB V.nili=true:=rfl
theorem Av6(t:Nat)(xs:List (List V)):V.cellB (.lst t xs)=true:=rfl
theorem Av7(t:Nat)(xs:List (List V)):V.rowB (.lst t xs)=true:=rfl
theorem Av8(i g o:Nat):V.cellB (.ptr i g o)=true:=rfl
theorem Av9(i g o:Nat):V.rowB (.ptr i g o)=false:=rfl
theorem Azd(i g o l m:Nat)(w:Bool):V.cellB (.sl i g o l m w)=true:=rfl
theorem Aze(i g o l m:Nat)(w:Bool):V.rowB (.sl i g o l m w)=false:=rfl
theorem As6:V.cellB V.nilp=true:=rfl
theorem As7:V.rowB V.nilp=false:=rfl
theorem As8:V.cellB V.nilf=true:=rfl
theorem As9:V.rowB V.nilf=false:=rfl
theorem Awa:V.cellB V.ifc=true:=rfl
theorem Awb:V.rowB V.ifc=false:=rfl
theorem Awc(r:List V)(o:Nat):V.cellB (.imm r o)=true:=rfl
theorem Awd(r:List V)(o:Nat):V.rowB (.imm r o)=false:=rfl
theorem Azf(f:Nat)(a c:List V):V.cellB (.fn f a c)=true:=rfl
theorem Azg(f:Nat)(a c:List V):V.rowB (.fn f a c)=false:=rfl
theorem Azh(i:Nat):V.cellB (.mp i)=true:=rfl
theorem Azi(i:Nat):V.rowB (.mp i)=false:=rfl
