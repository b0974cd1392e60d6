/- THE PLAIN MACHINE, joined texts: Oa Ob Oc Od Oe. -/
import Derived.Test.YtphikjgngompaacGreatDoorA3
import Derived.IntWalk
set_option linter.all false
/- Regions that draw their order, in general: reads float as long as what they read stays, effects keep their order. -/
namespace Go.Proofs.YtphikjgngompaacGreatDoor.KM
open Go
variable {T:Nat->Option AF} {pr:Nat->Option (List V->Option V)}
inductive Sg (T:Nat->Option AF) (pr:Nat->Option (List V->Option V)):AI->Env->St->V->St->Prop
 | off {i:AI} {e:Env} {σ:St}:Cv e i=some false->Sg T pr i e σ .skp σ
 | val {i:AI} {e:Env} {σ σ1:St} {v:V}:Cv e i=some true->Af i.op e σ=some (v,σ1)->Sg T pr i e σ v σ1
 | prim {i:AI} {f:Nat} {args:List V} {e:Env} {σ:St} {s:List V->Option V} {vs:List V} {v:V}:Cv e i=some true->Cj e i.op=some (f,args)->pr f=some s ->
   Dt σ args=some vs->s vs=some v->Sg T pr i e σ v (after σ args v)
 | pure {i:AI} {f:Nat} {args:List V} {e:Env} {σ:St} {vs:List V} {v:V}:Cv e i=some true->Cj e i.op=some (f,args) ->
   Dt σ args=some vs->Fn T pr f vs v->Sg T pr i e σ v (after σ args v)
 | own {i:AI} {f:Nat} {args:List V} {e:Env} {σ σ0:St} {F:AF} {vs:List V} {v:V}:Cv e i=some true->Cj e i.op=some (f,args)->T f=some F->F.thr=false->F.spec=none ->
   Dt σ args=some vs->Ev T pr (.fn f vs [] v σ0)->Sg T pr i e σ (v.ren (·+σ.length)) (own σ args σ0)
 | any {i:AI} {f:Nat} {args:List V} {e:Env} {σ σ1:St} {F:AF} {v:V}:Cv e i=some true->Cj e i.op=some (f,args)->T f=some F->F.spec=none ->
   Ev T pr (.fn f args σ v σ1)->Sg T pr i e σ v σ1
 | thr {i:AI} {f:Nat} {args:List V} {e:Env} {σ σ1:St} {F:AF} {v:V}:Cv e i=some true->Cj e i.op=some (f,args)->T f=some F->F.thr=true->F.spec=none ->
   Ev T pr (.fn f args σ v σ1)->Sg T pr i e σ v σ1
 | spec {i:AI} {f:Nat} {args:List V} {e:Env} {σ σ1:St} {F:AF} {s:List V->St->Option (V × St)} {v:V}:Cv e i=some true->Cj e i.op=some (f,args)->T f=some F->F.thr=true->F.spec=some s ->
   s args σ=some (v,σ1)->Sg T pr i e σ v σ1
def Sg.ev{i:AI}{l:List AI}{e e':Env}{σ σ1 σ':St}{v:V}(h:Sg T pr i e σ v σ1)(g:Ev T pr (.ops l (e.putO i.dst v) σ1 e' σ')):Ev T pr (.ops (i::l) e σ e' σ'):=by
 cases h with
 | off h=>exact .opsSkip h g
 | val h hv=>exact .opsVal h hv g
 | prim h hc hp hx hs=>exact .opsPrim h hc hp hx hs g
 | pure h hc hx hf=>
  obtain⟨F,h1,h2,h3,v0,σ0,h4,h5⟩:=hf;exact .opsPure h hc h1 h2 h3 hx h4 h5 g
 | own h hc h1 h2 h3 hx h4=>exact .opsOwn h hc h1 h2 h3 hx h4 g
 | any h hc h1 h3 h4=>exact .opsAny h hc h1 h3 h4 g
 | thr h hc h1 h2 h3 h4=>exact .opsThr h hc h1 h2 h3 h4 g
 | spec h hc h1 h2 h3 h4=>exact .opsSpec h hc h1 h2 h3 h4 g
def A2p{e e':Env}{op:AO}(h:Agree e e' op.rd):Cj e op=Cj e' op:=by
 cases op with
 | call f xs=>simp only[Cj];rw[Tj h]
 | callv x xs=>exact Ab3 h
 | _=>rfl
def Sg.move{i:AI}{e e':Env}{σ σ1:St}{v:V}(h:Sg T pr i e σ v σ1)(ha:Agree e e' i.rd):Sg T pr i e' σ v σ1:=by
 have hw:=Anu ha;have qo:=A2p (op:=i.op) ha.l
 cases h with
 | off h=>exact .off (hw ▸ h)
 | val h hv=>exact .val (hw ▸ h) (Apk (op:=i.op) ha.l σ ▸ hv)
 | prim h hc hp hx hs=>exact .prim (hw ▸ h) (qo ▸ hc) hp hx hs
 | pure h hc hx hf=>exact .pure (hw ▸ h) (qo ▸ hc) hx hf
 | own h hc h1 h2 h3 hx h4=>exact .own (hw ▸ h) (qo ▸ hc) h1 h2 h3 hx h4
 | any h hc h1 h3 h4=>exact .any (hw ▸ h) (qo ▸ hc) h1 h3 h4
 | thr h hc h1 h2 h3 h4=>exact .thr (hw ▸ h) (qo ▸ hc) h1 h2 h3 h4
 | spec h hc h1 h2 h3 h4=>exact .spec (hw ▸ h) (qo ▸ hc) h1 h2 h3 h4
def Nd(x y:AI):Bool:=
 (match x.dst with
  | some d=>!y.rd.elem d&&!(y.dst==some d)
  | none=>true)&&(match y.dst with
  | some d=>!x.rd.elem d
  | none=>true)
def Oq(qa:List (List Nat))(ops:List AI):Bool:=
 qa.length==ops.length&&(List.range ops.length).all fun j=>((qa.getD j []).all fun d=>decide (d<j))&&(List.range j).all fun i=>E0 qa ops.length j i||(match ops[i]?,ops[j]? with
  | some x,some y=>Nd x y
  | _,_=>false)
inductive TG (T:Nat->Option AF) (pr:Nat->Option (List V->Option V)) (qa:List (List Nat)) (n:Nat):Nat->List AI->Env->St->List (Nat × St × St)->List (Nat × (St->Prop))->Env->St->Prop
 | nil {k:Nat} {e:Env} {σ:St} {fs:List (Nat × St × St)} {ls:List (Nat × (St->Prop))}:TG T pr qa n k [] e σ fs ls e σ
 | read {k:Nat} {i:AI} {l:List AI} {e e':Env} {σ σ':St} {v:V} {fs:List (Nat × St × St)} {ls:List (Nat × (St->Prop))} (R:St->Prop):R σ->(∀ s,R s->Sg T pr i e s v s)->(∀ j s s1,(j,s,s1)∈fs->E0 qa n k j=true\/(R s1↔R s)) ->
   TG T pr qa n (k+1) l (e.putO i.dst v) σ fs ((k,R)::ls) e' σ'->TG T pr qa n k (i::l) e σ fs ls e' σ'
 | eff {k:Nat} {i:AI} {l:List AI} {e e':Env} {σ σ1 σ':St} {v:V} {fs:List (Nat × St × St)} {ls:List (Nat × (St->Prop))}:Sg T pr i e σ v σ1->(∀ j s s1,(j,s,s1)∈fs->E0 qa n k j=true)->(∀ j R,(j,R)∈ls->E0 qa n k j=true\/(R σ1↔R σ)) ->
   TG T pr qa n (k+1) l (e.putO i.dst v) σ1 ((k,σ,σ1)::fs) ls e' σ'->TG T pr qa n k (i::l) e σ fs ls e' σ'
def Avy(T:Nat->Option AF)(pr:Nat->Option (List V->Option V))(i:AI)(e:Env)(s s1:St)(v:V):Option (St->Prop)->Prop
 | some R=>s1=s/\R s/\∀ s',R s'->Sg T pr i e s' v s'
 | none=>Sg T pr i e s v s1
structure Sr (T:Nat->Option AF) (pr:Nat->Option (List V->Option V)) (qa:List (List Nat)) (n k:Nat) (l:List AI) (e:Env) (σ:St) (fs:List (Nat × St × St)) (ls:List (Nat × (St->Prop))) (e':Env) (σ':St) (qf:Nat->Env) (st:Nat->St) (val:Nat->V) (ro:Nat->Option (St->Prop)):Prop where
 e0:qf k=e
 s0:st k=σ
 e1:qf (k+l.length)=e'
 s1:st (k+l.length)=σ'
 stp:∀ j i,l[j]?=some i->qf (k+j+1)=(qf (k+j)).putO i.dst (val (k+j))/\Avy T pr i (qf (k+j)) (st (k+j)) (st (k+j+1)) (val (k+j)) (ro (k+j))
 d0:∀ a b,a<b->b<l.length->ro (k+a)=none->ro (k+b)=none->E0 qa n (k+b) (k+a)=true
 d4:∀ b j s s1,b<l.length->ro (k+b)=none->(j,s,s1)∈fs->E0 qa n (k+b) j=true
 d1:∀ a b R,a<l.length->b<l.length->ro (k+a)=some R->ro (k+b)=none->E0 qa n (k+a) (k+b)=true\/E0 qa n (k+b) (k+a)=true\/(R (st (k+b+1))↔R (st (k+b)))
 d2:∀ a R j s s1,a<l.length->ro (k+a)=some R->(j,s,s1)∈fs->E0 qa n (k+a) j=true\/(R s1↔R s)
 d3:∀ b j R,b<l.length->ro (k+b)=none->(j,R)∈ls->E0 qa n (k+b) j=true\/(R (st (k+b+1))↔R (st (k+b)))
def J7{α:Type}(k:Nat)(x:α)(f:Nat->α):Nat->α:=fun m=>if m=k then x else f m
theorem Ji{α:Type}{k:Nat}{x:α}{f:Nat->α}:J7 k x f (k+0)=x:=if_pos rfl
def Afg{α:Type}{k:Nat}{x:α}{f:Nat->α}:J7 k x f k=x:=if_pos rfl
def E7{α:Type}{k j:Nat}{x:α}{f:Nat->α}:J7 k x f (k+(j+1))=f (k+1+j):=by
 unfold J7
 grind
def Qu{α:Type}{k j:Nat}{x:α}{f:Nat->α}:J7 k x f (k+(j+1)+1)=f (k+1+j+1):=by
 unfold J7
 grind
def W0{α:Type}{k:Nat}{x:α}{f:Nat->α}:J7 k x f (k+0+1)=f (k+1):=by
 simp[J7]
def Jj(k j:Nat):k+(j+1)=k+1+j:=by omega
def TG.sr{qa:List (List Nat)}{n k:Nat}{l:List AI}{e e':Env}{σ σ':St}{fs:List (Nat × St × St)}{ls:List (Nat × (St->Prop))}(h:TG T pr qa n k l e σ fs ls e' σ'):∃ qf st val ro,Sr T pr qa n k l e σ fs ls e' σ' qf st val ro:=by
 induction h with
 | @nil k e σ fs ls=>
  exact⟨fun _=>e,fun _=>σ,fun _=>.und,fun _=>none,⟨rfl,rfl,rfl,rfl,fun j i h=>by simp at h,fun a b _ h=>by simp at h,fun b j s s1 h=>by simp at h,fun a b R h=>by simp at h,fun a R j s s1 h=>by simp at h,fun b j R h=>by simp at h⟩⟩
 | @read k i l e e' σ σ' v fs ls R hR hs hchk _ ih=>
  obtain⟨qf,st,val,ro,q⟩:=ih;refine⟨J7 k e qf,J7 k σ st,J7 k v val,J7 k (some R) ro,⟨Afg,Afg,?_,?_,fun j x hx=>?_,fun a b qT hb h1 h2=>?_,fun b j s s1 hb h1 qh=>?_,fun a b R' ha hb h1 h2=>?_,fun a R' j s s1 ha h1 qh=>?_,fun b j R' hb h1 qh=>?_⟩⟩
  .rw[Be,E7];exact q.e1
  .rw[Be,E7];exact q.s1
  .cases j with
   | zero=>
    simp at hx;subst hx;rw[Ji,Ji,Ji,Ji,W0,W0,q.e0,q.s0];exact⟨rfl,rfl,hR,hs⟩
   | succ j=>
    rw[E7,E7,E7,E7,Qu,Qu];exact q.stp j x (by grind)
  .cases a with
   | zero=>grind[Ji]
   | succ a=>
    cases b with
    | zero=>omega
    | succ b=>
     rw[E7]at h1 h2;rw[Jj k a,Jj k b];exact q.d0 a b AA (by grind) h1 h2
  .cases b with
   | zero=>grind[Ji]
   | succ b=>
    rw[E7]at h1;rw[Jj];exact q.d4 b j s s1 (by grind) h1 qh
  .cases b with
   | zero=>grind[Ji]
   | succ b=>
    rw[E7]at h2
    cases a with
    | zero=>
     rw[Ji]at h1;cases h1;have:=q.d3 b k R (by grind) h2 AE;rw[Qu,E7,Jj,Mx]
     grind
    | succ a=>
     rw[E7]at h1;rw[Qu,E7,Jj k a,Jj k b];exact q.d1 a b R' (by grind) (by grind) h1 h2
  .cases a with
   | zero=>
    grind[Ji]
   | succ a=>
    rw[E7]at h1;rw[Jj];exact q.d2 a R' j s s1 (by grind) h1 qh
  .cases b with
   | zero=>grind[Ji]
   | succ b=>
    rw[E7]at h1;rw[Qu,E7,Jj];exact q.d3 b j R' (by grind) h1 (Dl _ qh)
 | @eff k i l e e' σ σ1 σ' v fs ls hs hbef hchk _ ih=>
  obtain⟨qf,st,val,ro,q⟩:=ih;refine⟨J7 k e qf,J7 k σ st,J7 k v val,J7 k none ro,⟨Afg,Afg,?_,?_,fun j x hx=>?_,fun a b qT hb h1 h2=>?_,fun b j s s1 hb h1 qh=>?_,fun a b R' ha hb h1 h2=>?_,fun a R' j s s1 ha h1 qh=>?_,fun b j R' hb h1 qh=>?_⟩⟩
  .rw[Be,E7];exact q.e1
  .rw[Be,E7];exact q.s1
  .cases j with
   | zero=>
    simp at hx;subst hx;rw[Ji,Ji,Ji,Ji,W0,W0,q.e0,q.s0];exact⟨rfl,hs⟩
   | succ j=>
    rw[E7,E7,E7,E7,Qu,Qu];exact q.stp j x (by grind)
  .cases b with
   | zero=>omega
   | succ b=>
    rw[E7]at h2
    cases a with
    | zero=>
     rw[Jj,Mx];exact q.d4 b k σ σ1 (by grind) h2 AE
    | succ a=>
     rw[E7]at h1;rw[Jj k a,Jj k b];exact q.d0 a b AA (by grind) h1 h2
  .cases b with
   | zero=>grind
   | succ b=>
    rw[E7]at h1;rw[Jj];exact q.d4 b j s s1 (by grind) h1 (Dl _ qh)
  .cases a with
   | zero=>grind[Ji]
   | succ a=>
    rw[E7]at h1
    cases b with
    | zero=>
     have:=q.d2 a R' k σ σ1 (by grind) h1 AE;rw[W0,Ji,q.s0,Jj,Mx]
     grind
    | succ b=>
     rw[E7]at h2;rw[Qu,E7,Jj k a,Jj k b];exact q.d1 a b R' (by grind) (by grind) h1 h2
  .cases a with
   | zero=>grind
   | succ a=>
    rw[E7]at h1;rw[Jj];exact q.d2 a R' j s s1 (by grind) h1 (Dl _ qh)
  .cases b with
   | zero=>
    rw[W0,Ji,q.s0]
    grind
   | succ b=>
    rw[E7]at h1;rw[Qu,E7,Jj];exact q.d3 b j R' (by grind) h1 qh
variable {T:Nat->Option AF} {pr:Nat->Option (List V->Option V)}
section
variable {qa:List (List Nat)} {ops:List AI} {e e1:Env} {σ σ1:St} {qf:Nat->Env} {st:Nat->St} {val:Nat->V} {ro:Nat->Option (St->Prop)}
structure StaP (qa:List (List Nat)) (ops:List AI):Prop where
 len:qa.length=ops.length
 dep:∀ j,j<ops.length->∀ d∈qa.getD j [],d<j
 pair:∀ i j x y,i<j->ops[i]?=some x->ops[j]?=some y->E0 qa ops.length j i=true\/Nd x y=true
def Atp(h:Oq qa ops=true):StaP qa ops:=by
 unfold Oq at h;simp only[Al,beq_iff_eq,Cc,Hi,decide_eq_true_eq,Nx]at h;refine⟨h.1,fun j hj d hd=>(h.2 j hj).1 d hd,fun i j x y qw hx hy=>?_⟩
 grind
def Avz{qa:List (List Nat)}{N:Nat}(qU:∀ j,j<N->∀ d∈qa.getD j [],d<j):∀ f j c,j<N->E0 qa f j c=true->c<j:=by
 intro f
 induction f with
 | zero=>grind[E0]
 | succ f ih=>
  intro j c hj h;simp only[E0,Pa,Nx,beq_iff_eq]at h
  grind
def Yd(q:Sr T pr qa ops.length 0 ops e σ [] [] e1 σ1 qf st val ro):∀ i,i<=ops.length->EnvOK ops val e (fun j=>j<i) (qf i)
 | 0,_=>fun t=>.inr ⟨fun j hj=>by omega,by rw[q.e0]⟩
 | i+1,hi=>by
  have ih:=Yd q i AA;obtain⟨x,hx⟩:∃ x,ops[i]?=some x:=⟨ops[i],Cb AA⟩;have hs:=(q.stp i x hx).1;simp only[Gw]at hs;rw[hs];exact(ih.put hx (fun j t hj _ _=>hj)).iff (fun j=>by omega)
def Xh(ops:List AI)(ro:Nat->Option (St->Prop))(j:Nat):Prop:=j<ops.length/\ro j=none
def N4(q:Sr T pr qa ops.length 0 ops e σ [] [] e1 σ1 qf st val ro){α:Sort _}(f:St->α):∀ (d a:Nat),a+d<=ops.length->(∀ k,a<=k->k<a+d->Xh ops ro k->f (st (k+1))=f (st k))->f (st (a+d))=f (st a)
 | 0,a,_,_=>rfl
 | d+1,a,hle,h=>by
  have ih:=N4 q f d a AA (fun k h1 h2=>h k h1 AA);rw[<-ih];obtain⟨x,hx⟩:∃ x,ops[a+d]?=some x:=⟨ops[a+d],Cb AA⟩
  cases hc:ro (a+d) with
  | none=>exact h (a+d) AA AA ⟨by omega,hc⟩
  | some R=>
   have:=(q.stp (a+d) x hx).2;simp only[Gw,hc,Avy]at this
   grind
def Xm(ops:List AI)(ro:Nat->Option (St->Prop))(st:Nat->St)(qb:List Nat)(S':St):Prop:=
 ∃ m,m<=ops.length/\S'=st m/\∀ j,Xh ops ro j->(j<m↔j∈qb)
def Aq4(qd:StaP qa ops)(q:Sr T pr qa ops.length 0 ops e σ [] [] e1 σ1 qf st val ro):∀ (fuel t:Nat) (qb:List Nat) (E:Env) (S':St),qb.length+fuel=ops.length->qb.Nodup->(∀ i∈qb,i<ops.length)->DC qa qb ->
  EnvOK ops val e (·∈qb) E->Xm ops ro st qb S'->∃ E',Ev T pr (.ops (D8 ops (Oj qa fuel t qb)) E S' E' σ1)/\∀ m,E'.get m=e1.get m
 | 0,t,qb,E,S',hl,hn,hlt,hdc,hE,⟨m,hm,hS,heff⟩=>by
  have qi:∀ j,j<ops.length->j∈qb:=fun j hj=>Avx hn hlt AA hj
  refine⟨E,?_,fun k=>?_⟩
  .have jg:S'=σ1:=by
    rw[hS,<-q.s1,Gw];obtain⟨d,hd⟩:∃ d,m+d=ops.length:=⟨ops.length - m,by omega⟩;rw[<-hd];refine(N4 q id d m AA (fun k h1 h2 he=>?_)).symm;have:=(heff k he).2 (qi k AA);omega
   rw[jg];exact .opsNil
  .have ht:=Yd q ops.length (Am _);have qK:=q.e1;rw[Gw]at qK;rw[<-qK];exact hE.same ht (fun j hj=>⟨fun h=>hlt j h,fun h=>qi j h⟩)
 | fuel+1,t,qb,E,S',hl,hn,hlt,hdc,hE,⟨m,hm,hS,heff⟩=>by
  have qv:∃ j,j<ops.length/\j ∉ qb/\∀ d∈qa.getD j [],d∈qb:=by
   have qW:∃ j,j<ops.length/\j ∉ qb:=by
    rcases Classical.em (∃ j,j<ops.length/\j ∉ qb) with h | h
    .exact h
    .exfalso;have qF:∀ j,j<ops.length->j∈qb:=fun j hj=>Classical.byContradiction fun hc=>h ⟨j,hj,hc⟩
     have h1:=Acf ops.length qb qF;omega
   have:∀ k,∀ j,j<=k->j<ops.length->j ∉ qb->∃ j,j<ops.length/\j ∉ qb/\∀ d∈qa.getD j [],d∈qb:=by
    intro k
    induction k with
    | zero=>
     intro j hj h1 h2;obtain rfl:j=0:=by omega
     exact⟨0,h1,h2,fun d hd=>absurd (qd.dep 0 h1 d hd) AA⟩
    | succ k ih=>
     intro j hj h1 h2;by_cases qi:∀ d∈qa.getD j [],d∈qb
     .grind
     .obtain⟨d,hd,qI⟩:∃ d,d∈qa.getD j []/\d ∉ qb:=Classical.byContradiction fun hc=>qi fun d hd=>Classical.byContradiction fun qI=>hc ⟨d,hd,qI⟩
      have:=qd.dep j h1 d hd
      grind
   obtain⟨j,h1,h2⟩:=qW;exact this j j (Am _) h1 h2
  unfold Oj;generalize qO:(List.range qa.length).filter (Mm qa qb)=rs
  have qu:0<rs.length:=by
   obtain⟨j,h1,h2,h3⟩:=qv
   have:j∈rs:=by
    rw[<-qO,Rk];refine⟨by rw[Hi,qd.len];exact h1,?_⟩;simp only[Mm,Al,Rh,Cc];refine⟨?_,fun d hd=>X5.2 (h3 d hd)⟩
    cases hel:qb.elem j with
    | false=>rfl
    | true=>grind
   exact List.length_pos_of_mem this
  have qq:rs[t % rs.length]?=some (rs[t % rs.length]'(Tn _ qu)):=Cb _;generalize rs[t % rs.length]'(Tn _ qu)=i at qq;rw[qq];have qh:i∈rs:=Hg qq;rw[<-qO,Rk]at qh;obtain⟨qM,ql⟩:=qh;have hi:i<ops.length:=by rw[Hi,qd.len]at qM;exact qM
  simp only[Mm,Al,Rh,Cc]at ql;have qY:i ∉ qb:=fun h=>by grind
  have qJ:∀ d∈qa.getD i [],d∈qb:=fun d hd=>X5.1 (ql.2 d hd)
  obtain⟨x,hx⟩:∃ x,ops[i]?=some x:=⟨ops[i],Cb hi⟩
  have qP:∀ j y,i<j->ops[j]?=some y->j∈qb->Nd x y=true:=fun j y qw hy hj=>by
   rcases qd.pair i j x y qw hx hy with h | h
   .grind[Ry]
   omega
  have qV:∀ j y,j<i->ops[j]?=some y->j ∉ qb->Nd y x=true:=fun j y qw hy hj=>by
   rcases qd.pair j i y x qw hy hx with h | h
   .grind[Aco]
   omega
  have qg:∀ {j t:Nat},On ops j=some t->∃ y,ops[j]?=some y/\y.dst=some t:=fun {j t} h=>by
   unfold On at h
   grind
  have qk:Agree (qf i) E x.rd:=fun t ht=>by
   refine(Yd q i AA).same hE (fun j hj=>?_);obtain⟨y,hy,ji⟩:=qg hj;constructor
   .intro qD;rcases Classical.em (j∈qb) with h | h
    .exact h
    .have:=qV j y qD hy h
     simp_all [Nd]
   .intro ja;rcases Vk j i with h | h | h
    .exact h
    .grind
    .have:=qP j y h hy ja
     simp_all [Nd]
  obtain⟨qA,qe⟩:=q.stp i x hx;simp only[Gw]at qA qe
  have qR:EnvOK ops val e (·∈i::qb) (E.putO x.dst (val i)):=(hE.put hx (fun j t hj jl jb=>by
   obtain⟨y,hy,ji⟩:=qg jb;rcases Vk j i with h | h | h
   .exact h
   .grind
   .have:=qP j y h hy hj
    simp_all [Nd])).iff (fun j=>by grind)
  have qz:DC qa (i::qb):=fun j hj d hd=>by
   rcases B7.1 hj with rfl | hj
   .grind
   .exact Dl _ (hdc j hj d hd)
  have next:∀ S2,Xm ops ro st (i::qb) S2->Sg T pr x E S' (val i) S2->∃ E',Ev T pr (.ops (D8 ops (i::Oj qa fuel (t / rs.length) (i::qb))) E S' E' σ1)/\∀ m,E'.get m=e1.get m:=fun S2 qx jh=>by
   obtain⟨E',h1,h2⟩:=Aq4 qd q fuel (t / rs.length) (i::qb) _ S2 (by grind) (Ag3.2 ⟨qY,hn⟩) (fun j hj=>by
    grind) qz qR qx
   refine⟨E',?_,h2⟩
   have:D8 ops (i::Oj qa fuel (t / rs.length) (i::qb))=x::D8 ops (Oj qa fuel (t / rs.length) (i::qb)):=by
    unfold D8;rw[Nv,hx]
   rw[this];exact jh.ev h1
  have hb:=Avz qd.dep
  cases hro:ro i with
  | none=>
   rw[hro]at qe;have qe:Sg T pr x (qf i) (st i) (val i) (st (i+1)):=qe
   have qL:∀ k,Xh ops ro k->(k∈qb↔k<i):=fun k ⟨qB,jc⟩=>by
    constructor
    .intro hk;rcases Vk k i with h | h | h
     .exact h
     .grind
     .have:=q.d0 i k h qB (by grind) (by grind);simp only[Gw]at this
      grind[Ry]
    .intro hk;have:=q.d0 k i hk hi (by grind) (by grind);simp only[Gw]at this
     grind[Aco]
   have qS:S'=st i:=by
    rw[hS];rcases Ahg m i with qr | qr
    .obtain⟨d,rfl⟩:=Td qr
     exact(N4 q id d m AA (fun k a1 a2 he=>by
      grind)).symm
    .obtain⟨d,rfl⟩:=Td qr
     exact N4 q id d i AA (fun k a1 a2 he=>by
      grind)
   rw[qS]at next ⊢
   refine next (st (i+1)) ⟨i+1,by omega,rfl,fun k he=>?_⟩ (qe.move qk)
   grind
  | some R=>
   rw[hro]at qe;obtain⟨jj,jk,jd⟩:st (i+1)=st i/\R (st i)/\∀ s',R s'->Sg T pr x (qf i) s' (val i) s':=qe
   have qx:Xm ops ro st (i::qb) S':=⟨m,hm,hS,fun k he=>by
    rw[heff k he,B7];constructor
    .grind
    .rintro(rfl | h)
     .rw[he.2]at hro;cases hro
     omega⟩
   refine next S' qx ((jd S' ?_).move qk)
   have qE:∀ k,Xh ops ro k->(k∈qb/\i<k\/k ∉ qb/\k<i)->R (st (k+1))=R (st k):=fun k ⟨qB,jc⟩ hk=>by
    have hd:=q.d1 i k R hi qB (by grind) (by grind);simp only[Gw]at hd
    grind[Ry]
   rw[hS];rcases Ahg m i with qr | qr
   .obtain⟨d,rfl⟩:=Td qr
    have:=N4 q R d m AA (fun k a1 a2 he=>qE k he (.inr ⟨fun je=>by
     grind,a2⟩))
    grind
   .obtain⟨d,rfl⟩:=Td qr
    have:=N4 q R d i AA (fun k a1 a2 he=>by
     have je:=(heff k he).1 a2;rcases Nat.eq_or_lt_of_le a1 with rfl | h
     .grind
     grind)
    grind
def Aq5(qd:Oq qa ops=true)(h:TG T pr qa ops.length 0 ops e σ [] [] e1 σ1):∃ E2:Nat->Env,(∀ t,Ev T pr (.ops (D8 ops (P5 qa t)) e σ (E2 t) σ1))/\∀ t n,(E2 t).get n=e1.get n:=by
 obtain⟨qf,st,val,ro,q⟩:=h.sr;have S:=Atp qd
 have qG:∀ t,∃ E',Ev T pr (.ops (D8 ops (P5 qa t)) e σ E' σ1)/\∀ m,E'.get m=e1.get m:=fun t=>by
  have:=Aq4 S q qa.length t [] e σ (by simp[S.len]) X4 (fun i hi=>by cases hi) (fun j hj=>by cases hj) (fun t=>.inr ⟨(fun j hj=>by cases hj),rfl⟩) ⟨0,As _,q.s0.symm,fun j _=>by simp⟩
  grind[P5,Aio]
 exact⟨fun t=>(qG t).choose,fun t=>(qG t).choose_spec.1,fun t=>(qG t).choose_spec.2⟩
end
variable {T:Nat->Option AF} {pr:Nat->Option (List V->Option V)}
mutual
def V.eqv:V->V->Bool
 | .und,.und=>true
 | .skp,.skp=>true
 | .bool a,.bool b=>a==b
 | .int k n,.int k' m=>decide (k=k')&&decide (n=m)
 | .str a,.str b=>decide (a=b)
 | .nili,.nili=>true
 | .ifc,.ifc=>true
 | .nils,.nils=>true
 | .nilp,.nilp=>true
 | .nilf,.nilf=>true
 | .lst t xs,.lst t' ys=>decide (t=t')&&Aak xs ys
 | .imm r o,.imm r' o'=>decide (o=o')&&Oy r r'
 | .ptr i g o,.ptr i' g' o'=>decide (i=i')&&(decide (g=g')&&decide (o=o'))
 | .sl i g o l m w,.sl i' g' o' l' m' w'=>decide (i=i')&&(decide (g=g')&&(decide (o=o')&&(decide (l=l')&&(decide (m=m')&&w==w'))))
 | .fn f a c,.fn f' a' c'=>decide (f=f')&&(Oy a a'&&Oy c c')
 | .mp i,.mp i'=>decide (i=i')
 | .agg a,.agg b=>Oy a b
 | .tup a,.tup b=>Oy a b
 | _,_=>false
def Oy:List V->List V->Bool
 | [],[]=>true
 | a::r,b::s=>a.eqv b&&Oy r s
 | _,_=>false
def Aak:List (List V)->List (List V)->Bool
 | [],[]=>true
 | a::r,b::s=>Oy a b&&Aak r s
 | _,_=>false
end
mutual
theorem Z0:∀ {a b:V},a.eqv b=true->a=b
 | .und,b,h=>by grind[V.eqv]
 | .skp,b,h=>by grind[V.eqv]
 | .bool _,b,h=>by cases b<;>simp[V.eqv]at h;rw[h]
 | .int _ _,b,h=>by cases b<;>simp[V.eqv]at h;grind
 | .str _,b,h=>by cases b<;>simp[V.eqv]at h;rw[h]
 | .nili,b,h=>by grind[V.eqv]
 | .ifc,b,h=>by grind[V.eqv]
 | .nils,b,h=>by grind[V.eqv]
 | .nilp,b,h=>by grind[V.eqv]
 | .nilf,b,h=>by grind[V.eqv]
 | .lst _ _,b,h=>by cases b<;>simp[V.eqv]at h;rw[h.1,Aq6 h.2]
 | .imm _ _,b,h=>by cases b<;>simp[V.eqv]at h;rw[h.1,Rz h.2]
 | .ptr _ _ _,b,h=>by cases b<;>simp[V.eqv]at h;grind
 | .sl _ _ _ _ _ _,b,h=>by cases b<;>simp[V.eqv]at h;grind
 | .fn _ _ _,b,h=>by cases b<;>simp[V.eqv]at h;rw[h.1,Rz h.2.1,Rz h.2.2]
 | .mp _,b,h=>by cases b<;>simp[V.eqv]at h;rw[h]
 | .agg _,b,h=>by cases b<;>simp[V.eqv]at h;rw[Rz h]
 | .tup _,b,h=>by cases b<;>simp[V.eqv]at h;rw[Rz h]
theorem Rz:∀ {a b:List V},Oy a b=true->a=b
 | [],b,h=>by grind[Oy]
 | _::_,b,h=>by cases b<;>simp[Oy]at h;rw[Z0 h.1,Rz h.2]
theorem Aq6:∀ {a b:List (List V)},Aak a b=true->a=b
 | [],b,h=>by grind[Aak]
 | _::_,b,h=>by cases b<;>simp[Aak]at h;rw[Rz h.1,Aq6 h.2]
end
def U3(qa:List (List Nat)):Nat->Nat->Nat->Bool
 | 0,_,_=>false
 | f+1,j,i=>(qa.getD j []).any fun d=>d==i||(decide (i<d)&&U3 qa f d i)
theorem Ac8{qa:List (List Nat)}:∀ {f j i:Nat},U3 qa f j i=true->E0 qa f j i=true
 | 0,_,_,h=>by grind[U3]
 | f+1,j,i,h=>by
  simp only[U3,E0,Pa,Nx,Al]at h ⊢;obtain⟨d,hd,h⟩:=h;exact⟨d,hd,h.imp id fun h=>Ac8 h.2⟩
inductive RD where
 | ev (op:AO) (e:Env) (v:V)
 | ov (args vs:List V)
def Amh:AO->Bool
 | .load _ _ _ | .mlk _ _ _=>true
 | _=>false
def Ah1{op:AO}(h:Amh op=true){e:Env}{σ σ1:St}{v:V}(hv:Af op e σ=some (v,σ1)):σ1=σ:=by
 cases op with
 | load n one x=>
  grind[Af,Option.map_eq_some_iff]
 | mlk z x k=>
  grind[Af]
 | _=>cases h
def RD.R:RD->St->Prop
 | .ev op e v,s=>Af op e s=some (v,s)
 | .ov args vs,s=>Dt s args=some vs
def Ald:Option (V × St)->Option (V × St)->Bool
 | some a,some b=>a.1.eqv b.1
 | _,_=>false
def Ale:Option (List V)->Option (List V)->Bool
 | some a,some b=>Oy a b
 | _,_=>false
def RD.same:RD->St->St->Bool
 | .ev op e _,s,s1=>Amh op&&Ald (Af op e s) (Af op e s1)
 | .ov args _,s,s1=>Ale (Dt s args) (Dt s1 args)
theorem RD.same_ok{r:RD}{s s1:St}(h:r.same s s1=true):r.R s1↔r.R s:=by
 cases r with
 | ev op e v=>
  simp only[RD.same,Al]at h;simp only[RD.R];obtain⟨h0,h⟩:=h
  cases h1:Af op e s with
  | none=>grind[Ald]
  | some a=>
   cases h2:Af op e s1 with
   | none=>grind[Ald]
   | some b=>
    rw[h1,h2]at h;have:=Z0 h;obtain⟨a1,a2⟩:=a;obtain⟨b1,b2⟩:=b;obtain rfl:=Ah1 h0 h1;obtain rfl:=Ah1 h0 h2
    grind
 | ov args vs=>
  simp only[RD.same]at h;simp only[RD.R]
  cases h1:Dt s args with
  | none=>grind[Ale]
  | some a=>
   cases h2:Dt s1 args with
   | none=>grind[Ale]
   | some b=>
    rw[h1,h2]at h;rw[Rz h]
abbrev Efs:=List (Nat × St × St)
abbrev Rds:=List (Nat × RD)
def Ayu(qa:List (List Nat))(n k:Nat)(fs:Efs)(r:RD):Bool:=fs.all fun p=>U3 qa n k p.1||r.same p.2.1 p.2.2
def Ami(qa:List (List Nat))(n k:Nat)(fs:Efs)(ls:Rds)(σ σ1:St):Bool:=(fs.all fun p=>U3 qa n k p.1)&&ls.all fun p=>U3 qa n k p.1||p.2.same σ σ1
def Afh(T:Nat->Option AF)(pr:Nat->Option (List V->Option V))(f:Nat):Bool:=
 match pr f with
 | some _=>true
 | none=>match T f with
  | some F=>!F.thr
  | none=>false
def Alf(T:Nat->Option AF)(pr:Nat->Option (List V->Option V))(i:AI)(e:Env)(σ:St)(v:V):Nat × RD:=
 if Zz i.op then(match Cj e i.op with
  | some (f,args)=>if Afh T pr f then(if(Ah args).isEmpty then(0,.ov args []) else if v.flatV then(1,.ov args ((Dt σ args).getD [])) else(2,.ov [] [])) else(2,.ov [] [])
  | none=>(2,.ov [] []))
 else if Gm T pr i.op==0 then(0,.ov [] []) else if Amh i.op then(1,.ev i.op e v) else(2,.ov [] [])
def Py(T:Nat->Option AF)(pr:Nat->Option (List V->Option V))(rf:Bool->Q5)(qa:List (List Nat))(n:Nat):Nat->List AI->Env->St->Efs->Rds->Option (Env × St)
 | _,[],e,σ,_,_=>some (e,σ)
 | k,i::l,e,σ,fs,ls=>match Cv e i with
  | some true=>(Vb rf false i.op e σ).bind fun p=>match Alf T pr i e σ p.1 with
   | (0,_)=>Py T pr rf qa n (k+1) l (e.putO i.dst p.1) σ fs ls
   | (1,r)=>if Ayu qa n k fs r then Py T pr rf qa n (k+1) l (e.putO i.dst p.1) σ fs ((k,r)::ls) else none
   | (_,_)=>if Ami qa n k fs ls σ p.2 then Py T pr rf qa n (k+1) l (e.putO i.dst p.1) p.2 ((k,σ,p.2)::fs) ls else none
  | some false=>Py T pr rf qa n (k+1) l (e.putO i.dst .skp) σ fs ls
  | none=>none
def Axs(T:Nat->Option AF)(pr:Nat->Option (List V->Option V))(rc:Lw)(rf:Bool->Q5):Lw:=fun k e σ=>
 match k with
 | []=>some (e,σ)
 | .b _::k=>rc k e σ
 | .l keep c::k=>rc (.c c::.l keep c::k) (e.keep keep) σ
 | .c c::k=>match c with
  | .skip=>rc k e σ
  | .reg kill ops=>(S7 rf false ops e σ).bind fun p=>rc k (p.1.del kill) p.2
  | .drw kill qa ops=>(Py T pr rf qa ops.length 0 ops e σ [] []).bind fun p=>rc k (p.1.del kill) p.2
  | .seq a b=>rc (.c a::.c b::k) e σ
  | .cond c kill x y=>(Axr (Ac e c)).bind fun z=>rc (.c (if z then x else y)::k) (e.del kill) σ
  | .blk id c=>rc (.c c::.b id::k) e σ
  | .loop keep c=>rc (.l keep c::k) e σ
  | .exit id=>(exitTo id k).bind fun k'=>rc k' e σ
  | .ret=>some (e,σ)
def Oz(T:Nat->Option AF)(pr:Nat->Option (List V->Option V)):Nat->Lw
 | 0=>fun _ _ _=>none
 | n+1=>Axs T pr (Oz T pr n) (Oo T pr (Oz T pr n))
variable {T:Nat->Option AF} {pr:Nat->Option (List V->Option V)}
def Ln:AC->Bool
 | .drw _ qa ops=>Oq qa ops
 | .seq a b=>Ln a&&Ln b
 | .cond _ _ a b=>Ln a&&Ln b
 | .blk _ c=>Ln c
 | .loop _ c=>Ln c
 | _=>true
def Lo:It->Bool
 | .c c=>Ln c
 | .b _=>true
 | .l _ c=>Ln c
def Ab4{id:Nat}:∀ {k k':List It},exitTo id k=some k'->k.all (Lo)=true->k'.all (Lo)=true
 | [],_,h,_=>by cases h
 | .b i::k,k',h,hk=>by
  simp only[exitTo]at h;simp only[B5,Al]at hk
  split at h
  .grind
  .exact Ab4 h hk.2
 | .c c::k,k',h,hk=>by
  simp only[exitTo]at h;simp only[B5,Al]at hk;exact Ab4 h hk.2
 | .l ks c::k,k',h,hk=>by
  simp only[exitTo]at h;simp only[B5,Al]at hk;exact Ab4 h hk.2
section
variable (qd:∀ f F,T f=some F->F.spec=none->Ln F.body=true)
def Aip{rc:Lw}(ih:∀ k e σ e' σ',k.all (Lo)=true->rc k e σ=some (e',σ')->Ev T pr (.code k e σ e' σ')){f:Nat}{F:AF}(hT:T f=some F)(qc:F.spec=none)(hc:Ln F.body=true){vs:List V}{σ σ':St}{v:V}(h:Lm rc F vs σ=some (v,σ')):Ev T pr (.fn f vs σ v σ'):=by
 unfold Lm at h
 split at h
 .rename_i hl;obtain⟨⟨e1,σ1⟩,hp,h⟩:=E3.1 h;unfold Ayt at h;obtain⟨v',hv,h⟩:=E3.1 h;have hE:=ih _ _ _ _ _ (by grind[Lo]) hp;rcases A5l h with⟨h1,h2,h3,rfl,rfl⟩ | ⟨js,h1,rfl,rfl⟩
  .exact .fn hT qc hl hE hv h1 h2 (fun i ob hi ho=>.inr (h3 i ob hi ho))
  .exact .fnL hT qc hl hE hv h1
 .cases h
include qd in
def Aq7{rc:Lw}(ih:∀ k e σ e' σ',k.all (Lo)=true->rc k e σ=some (e',σ')->Ev T pr (.code k e σ e' σ')){s:Bool}{f:Nat}{args:List V}{σ σ1:St}{v:V}(h:Oo T pr rc s f args σ=some (v,σ1)):CallR T pr s f args σ v σ1:=by
 unfold Oo at h
 have qm:∀ {s:Bool},¬ ((s&&!(Ah args).isEmpty)=true)->s=true->Ah args=[]:=fun {s} h1 h2=>by
  grind
 split at h
 .rename_i q hq
  split at h
  .cases h
  .rename_i hs;obtain⟨ws,hx,h⟩:=E3.1 h;obtain⟨v',hv,h⟩:=Ci.1 h;cases h;exact .prim hq (qm hs) hx hv
 .rename_i hq
  split at h
  .cases h
  .rename_i F hT
   split at h
   .rename_i q ht qc;exact .spec hq hT ht qc h
   .rename_i ht qc;exact .thr hq hT ht qc (Aip ih hT qc (qd _ _ hT qc) h)
   .rename_i ht qc
    split at h
    .cases h
    .rename_i hs;unfold Aaj at h;obtain⟨ws,hx,h⟩:=E3.1 h;obtain⟨⟨v0,σ0⟩,hb,h⟩:=E3.1 h;obtain⟨v',hv,h⟩:=Ci.1 h;cases h;exact .pure (qm hs) hx ⟨F,hT,ht,qc,v0,σ0,Aip ih hT qc (qd _ _ hT qc) hb,hv⟩
   grind
include qd in
def Aje{rc:Lw}(ih:∀ k e σ e' σ',k.all (Lo)=true->rc k e σ=some (e',σ')->Ev T pr (.code k e σ e' σ')):∀ {l:List AI} {e e':Env} {σ σ':St},S7 (Oo T pr rc) false l e σ=some (e',σ')->Ev T pr (.ops l e σ e' σ')
 | [],e,e',σ,σ',h=>by cases h;exact .opsNil
 | i::l,e,e',σ,σ',h=>by
  unfold S7 at h
  split at h
  .rename_i hw;obtain⟨⟨v,σ1⟩,hp,h⟩:=E3.1 h;have hE:=Aje ih h;rcases Ato hp with⟨_,hv⟩ | ⟨f,args,hc,hf,_⟩
   .exact .opsVal hw hv hE
   .cases Aq7 qd ih hf with
    | prim h1 _ h2 h3=>exact .opsPrim hw hc h1 h2 h3 hE
    | pure _ h2 h3=>
     obtain⟨F,hT,ht,qc,v0,σ0,h4,h5⟩:=h3;exact .opsPure hw hc hT ht qc h2 h4 h5 hE
    | thr _ hT ht qc h4=>exact .opsThr hw hc hT ht qc h4 hE
    | spec _ hT ht qc h4=>exact .opsSpec hw hc hT ht qc h4 hE
  .rename_i hw;exact .opsSkip hw (Aje ih h)
  .cases h
include qd in
def Adp{rc:Lw}(ih:∀ k e σ e' σ',k.all Lo=true->rc k e σ=some (e',σ')->Ev T pr (.code k e σ e' σ')){qa:List (List Nat)}{n:Nat}:∀ {l:List AI} {k:Nat} {e e':Env} {σ σ':St} {fs:Efs} {ls:Rds} {qj:List (Nat × (St->Prop))},Py T pr (Oo T pr rc) qa n k l e σ fs ls=some (e',σ') ->
  (∀ j s s1,(j,s,s1)∈fs->True)->(∀ j R,(j,R)∈qj->(∀ s,R s)\/∃ r,(j,r)∈ls/\R=RD.R r)->TG T pr qa n k l e σ fs qj e' σ'
 | [],k,e,e',σ,σ',fs,ls,qj,h,_,_=>by cases h;exact .nil
 | i::l,k,e,e',σ,σ',fs,ls,qj,h,hfs,qC=>by
  unfold Py at h
  have qs:∀ {v:V},(∀ s,Sg T pr i e s v s)->Py T pr (Oo T pr rc) qa n (k+1) l (e.putO i.dst v) σ fs ls=some (e',σ')->TG T pr qa n k (i::l) e σ fs qj e' σ':=fun {v} hs h=>
   .read (fun _=>True) trivial (fun s _=>hs s) (fun _ _ _ _=>.inr Iff.rfl) (Adp ih h (fun _ _ _ _=>trivial) (fun j R hm=>by
    rcases B7.1 hm with hm | hm
    .grind
    simp_all))
  split at h
  .rename_i hw;obtain⟨⟨v,σ1⟩,hp,h⟩:=E3.1 h
   have qQ:∀ {r:RD},RD.R r σ->(∀ s,RD.R r s->Sg T pr i e s v s)->Ayu qa n k fs r=true->Py T pr (Oo T pr rc) qa n (k+1) l (e.putO i.dst v) σ fs ((k,r)::ls)=some (e',σ')->TG T pr qa n k (i::l) e σ fs qj e' σ':=fun {r} h0 hs qn h=>
    .read (RD.R r) h0 hs (fun j s s1 hm=>by
     have:=Cc.1 qn _ hm;simp only[Nx]at this
     grind[Ac8,RD.same_ok]) (Adp ih h (fun _ _ _ _=>trivial) (fun j R hm=>by
      rcases B7.1 hm with hm | hm
      .grind
      .exact(qC j R hm).imp id fun⟨r',h1,h2⟩=>⟨r',Dl _ h1,h2⟩))
   have eff:Sg T pr i e σ v σ1->Ami qa n k fs ls σ σ1=true->Py T pr (Oo T pr rc) qa n (k+1) l (e.putO i.dst v) σ1 ((k,σ,σ1)::fs) ls=some (e',σ')->TG T pr qa n k (i::l) e σ fs qj e' σ':=fun hs qn h=>by
    unfold Ami at qn;simp only[Al]at qn;refine .eff hs (fun j s s1 hm=>Ac8 (Cc.1 qn.1 _ hm)) (fun j R hm=>?_) (Adp ih h (fun _ _ _ _=>trivial) qC);rcases qC j R hm with h' | ⟨r,h1,rfl⟩
    .grind
    .have:=Cc.1 qn.2 _ h1;simp only[Nx]at this
     grind[Ac8,RD.same_ok]
   rcases Ato hp with⟨jf,hv⟩ | ⟨f,args,hc,hf,_⟩
   .have hs:Sg T pr i e σ v σ1:=.val hw hv;unfold Alf at h;rw[jf]at h;simp only[Hz,if_false]at h
    split at h
    .rename_i hk
     split at hk
     .rename_i h0;refine qs (fun s=>.val hw ((Ab8 (by simpa using h0) hv).2 s)) h
     grind
    .rename_i r hk
     split at hk
     .cases hk
     .split at hk
      .rename_i hr;cases hk
       split at h
       .rename_i qn;obtain rfl:=Ah1 hr hv;exact qQ (r:=.ev i.op e v) hv (fun s hs=>.val hw hs) qn h
       grind
      grind
    grind
   .have qH:=Aq7 qd ih hf
    have hs:Sg T pr i e σ v σ1:=by
     cases qH with
     | prim h1 _ h2 h3=>exact .prim hw hc h1 h2 h3
     | pure _ h2 h3=>exact .pure hw hc h2 h3
     | thr _ hT ht qc h4=>exact .thr hw hc hT ht qc h4
     | spec _ hT ht qc h4=>exact .spec hw hc hT ht qc h4
    have qZ:Zz i.op=true:=by
     cases hop:i.op with
     | call=>rfl
     | callv=>rfl
     | _=>grind[Cj]
    unfold Alf at h;rw[qZ]at h;simp only[if_true,hc]at h;by_cases qt:Afh T pr f=true
    .rw[if_pos qt]at h
     have qy:σ1=after σ args v/\∃ vs,Dt σ args=some vs/\∀ s,Dt s args=some vs->after s args v=s->Sg T pr i e s v s:=by
      cases qH with
      | prim h1 _ h2 h3=>exact⟨rfl,_,h2,fun s ho ha=>by have:=Sg.prim (T:=T) hw hc h1 ho h3;grind⟩
      | pure _ h2 h3=>exact⟨rfl,_,h2,fun s ho ha=>by have:=Sg.pure hw hc ho h3;grind⟩
      | thr hq hT ht qc h4=>grind[Afh]
      | spec hq hT ht qc h4=>grind[Afh]
     obtain⟨jm,vs,qN,qi⟩:=qy;by_cases qp:(Ah args).isEmpty=true
     .rw[if_pos qp]at h
      grind[Ac7,Vy]
     .rw[if_neg qp]at h;by_cases qX:v.flatV=true
      .rw[if_pos qX]at h;rw[qN]at h;simp only[X2]at h
       split at h
       .rename_i qn;exact qQ (r:=.ov args vs) qN (fun s hs=>qi s hs (by simp_all [after])) qn h
       grind
      grind
    grind
  .rename_i hw;exact qs (fun s=>.off hw) h
  grind
include qd in
def Atq:∀ (n:Nat) (k:List It) (e:Env) (σ:St) (e':Env) (σ':St),k.all (Lo)=true->Oz T pr n k e σ=some (e',σ')->Ev T pr (.code k e σ e' σ')
 | 0,_,_,_,_,_,_,h=>by cases h
 | n+1,k,e,σ,e',σ',hk,h=>by
  have ih:=Atq n;simp only[Oz]at h;unfold Axs at h
  split at h
  .cases h;exact .cNil
  .simp only[B5,Al]at hk;exact .cEnd (ih _ _ _ _ _ hk.2 h)
  .simp only[B5,Al]at hk;exact .cAgain (ih _ _ _ _ _ (by simp only[B5,Al];exact⟨hk.1,hk⟩) h)
  .simp only[B5,Al]at hk;obtain⟨hc,hk⟩:=hk
   split at h
   .exact .cSkip (ih _ _ _ _ _ hk h)
   .obtain⟨⟨e1,σ1⟩,hp,h⟩:=E3.1 h;exact .cReg (Aje qd ih hp) (ih _ _ _ _ _ hk h)
   .rename_i kill qa ops;obtain⟨⟨e1,σ1⟩,hp,h⟩:=E3.1 h;have qo:Oq qa ops=true:=hc;obtain⟨E2,h1,h2⟩:=Aq5 qo (Adp qd ih hp (fun _ _ _ h=>by cases h) (fun _ _ h=>by cases h));exact .cDrw E2 h1 h2 (ih _ _ _ _ _ hk h)
   .simp only[Lo,Ln,Al]at hc;exact .cSeq (ih _ _ _ _ _ (by simp_all [Lo]) h)
   .obtain⟨z,hz,h⟩:=E3.1 h;simp only[Lo,Ln,Al]at hc;refine .cCond (z:=z) ?_ (ih _ _ _ _ _ (by simp only[B5,Al,Lo];grind) h);unfold Axr at hz
    grind
   .exact .cBlk (ih _ _ _ _ _ (by simp only[B5,Al,Lo];exact⟨hc,trivial,hk⟩) h)
   .exact .cLoop (ih _ _ _ _ _ (by simp only[B5,Al,Lo];exact⟨hc,hk⟩) h)
   .obtain⟨k',hx,h⟩:=E3.1 h;exact .cExit hx (ih _ _ _ _ _ (Ab4 hx hk) h)
   .cases h;exact .cRet
include qd in
def R2{n f:Nat}{F:AF}(hT:T f=some F)(ht:F.thr=false)(qc:F.spec=none){vs:List V}{v:V}(h:((Lm (Oz T pr n) F vs []).bind fun p=>Eg p.2 p.1)=some v):Fn T pr f vs v:=by
 obtain⟨⟨v0,σ0⟩,hb,h⟩:=E3.1 h;exact⟨F,hT,ht,qc,v0,σ0,Aip (fun _ _ _ _ _ hk h=>Atq qd n _ _ _ _ _ hk h) hT qc (qd _ _ hT qc) hb,h⟩
end
variable {T:Nat->Option AF} {pr:Nat->Option (List V->Option V)}
abbrev Fs:=List (Nat × St × St)
abbrev Ls:=List (Nat × (St->Prop))
def WG(T:Nat->Option AF)(pr:Nat->Option (List V->Option V))(qa:List (List Nat))(n k:Nat)(l:List AI)(e:Env)(σ:St)(fs:Fs)(ls:Ls)(Q:Env->St->Prop):Prop:=∃ e' σ',TG T pr qa n k l e σ fs ls e' σ'/\Q e' σ'
def Xn(qa:List (List Nat))(n k:Nat)(R:St->Prop):Fs->Prop
 | []=>True
 | (j,s,s1)::r=>(E0 qa n k j=true\/(R s/\R s1))/\Xn qa n k R r
def P6(qa:List (List Nat))(n k:Nat):Fs->Prop
 | []=>True
 | (j,_,_)::r=>E0 qa n k j=true/\P6 qa n k r
def P7(qa:List (List Nat))(n k:Nat)(σ σ1:St):Ls->Prop
 | []=>True
 | (j,R)::r=>(E0 qa n k j=true\/(R σ/\R σ1))/\P7 qa n k σ σ1 r
def Ajf{qa:List (List Nat)}{n k:Nat}{R:St->Prop}:∀ {fs:Fs},Xn qa n k R fs->∀ j s s1,(j,s,s1)∈fs->E0 qa n k j=true\/(R s1↔R s)
 | [],_,_,_,_,h=>by cases h
 | _::_,h,j,s,s1,hm=>by
  rcases B7.1 hm with rfl | hm
  .exact h.1.imp id fun h=>⟨fun _=>h.1,fun _=>h.2⟩
  .exact Ajf h.2 j s s1 hm
def Atr{qa:List (List Nat)}{n k:Nat}:∀ {fs:Fs},P6 qa n k fs->∀ j s s1,(j,s,s1)∈fs->E0 qa n k j=true
 | [],_,_,_,_,h=>by cases h
 | _::_,h,j,s,s1,hm=>by
  rcases B7.1 hm with rfl | hm
  .exact h.1
  .exact Atr h.2 j s s1 hm
def Ats{qa:List (List Nat)}{n k:Nat}{σ σ1:St}:∀ {ls:Ls},P7 qa n k σ σ1 ls->∀ j R,(j,R)∈ls->E0 qa n k j=true\/(R σ1↔R σ)
 | [],_,_,_,h=>by cases h
 | _::_,h,j,R,hm=>by
  rcases B7.1 hm with rfl | hm
  .exact h.1.imp id fun h=>⟨fun _=>h.1,fun _=>h.2⟩
  .exact Ats h.2 j R hm
section
variable {Q:Env->St->Prop} {e:Env} {σ:St} {k:List It}
def Bdm{kill:List Nat}{qa:List (List Nat)}{ops:List AI}(qd:Oq qa ops=true)(h:∀ K:Env->St->Prop,(∀ e1 σ1,W T pr k (e1.del kill) σ1 Q->K e1 σ1)->WG T pr qa ops.length 0 ops e σ [] [] K):W T pr (.c (.drw kill qa ops)::k) e σ Q:=by
 obtain⟨e1,σ1,hT,e',σ',h2,q⟩:=h _ fun _ _ h=>h
 obtain⟨E2,g1,g2⟩:=Aq5 qd hT;exact⟨e',σ',.cDrw E2 g1 g2 h2,q⟩
variable {qa:List (List Nat)} {n m:Nat} {l:List AI} {fs:Fs} {ls:Ls}
def Bdn(q:Q e σ):WG T pr qa n m [] e σ fs ls Q:=⟨e,σ,.nil,q⟩
def Aeb{i:AI}{v:V}(hs:∀ s,Sg T pr i e s v s)(h:WG T pr qa n (m+1) l (e.putO i.dst v) σ fs ls Q):WG T pr qa n m (i::l) e σ fs ls Q:=by
 obtain⟨e',σ',h,q⟩:=h;refine⟨e',σ',.read (fun _=>True) trivial (fun s _=>hs s) (fun _ _ _ _=>.inr Iff.rfl) ?_,q⟩
 have more:∀ {k:Nat} {l:List AI} {e e':Env} {σ σ':St} {fs:Fs} {ls:Ls},TG T pr qa n k l e σ fs ls e' σ'->∀ qj,(∀ j R,(j,R)∈qj->(∀ s,R s)\/(j,R)∈ls)->TG T pr qa n k l e σ fs qj e' σ':=by
  intro k l e e' σ σ' fs ls h
  induction h with
  | nil=>exact fun _ _=>.nil
  | read R h1 h2 h3 _ ih=>
   exact fun qj hl=>.read R h1 h2 h3 (ih _ fun j R' hm=>by
    rcases B7.1 hm with hm | hm
    .grind
    .exact(hl j R' hm).imp id fun h=>Dl _ h)
  | eff h1 h2 h3 _ ih=>
   exact fun qj hl=>.eff h1 h2 (fun j R hm=>by
    rcases hl j R hm with h | h
    .grind
    grind) (ih _ hl)
 grind
theorem Bdo{i:AI}{v:V}(hg:Cv e i=some true)(hv:∀ s,Af i.op e s=some (v,s))(h:WG T pr qa n (m+1) l (e.putO i.dst v) σ fs ls Q):WG T pr qa n m (i::l) e σ fs ls Q:=Aeb (fun s=>.val hg (hv s)) h
theorem Bh3{i:AI}{v:V}(hg:Cv e i=some true)(hv:Af i.op e σ=some (v,σ))(hc:Xn qa n m (fun s=>Af i.op e s=some (v,s)) fs)(h:WG T pr qa n (m+1) l (e.putO i.dst v) σ fs ((m,fun s=>Af i.op e s=some (v,s))::ls) Q):WG T pr qa n m (i::l) e σ fs ls Q:=by
 obtain⟨e',σ',h,q⟩:=h;exact⟨e',σ',.read (fun s=>Af i.op e s=some (v,s)) hv (fun s hs=>.val hg hs) (Ajf hc) h,q⟩
def Av0{i:AI}{v:V}{σ1:St}(hs:Sg T pr i e σ v σ1)(h1:P6 qa n m fs)(h2:P7 qa n m σ σ1 ls)(h:WG T pr qa n (m+1) l (e.putO i.dst v) σ1 ((m,σ,σ1)::fs) ls Q):WG T pr qa n m (i::l) e σ fs ls Q:=by
 obtain⟨e',σ',h,q⟩:=h;exact⟨e',σ',.eff hs (Atr h1) (Ats h2) h,q⟩
theorem Bdp{i:AI}{v:V}{σ1:St}(hg:Cv e i=some true)(hv:Af i.op e σ=some (v,σ1))(h1:P6 qa n m fs)(h2:P7 qa n m σ σ1 ls)(h:WG T pr qa n (m+1) l (e.putO i.dst v) σ1 ((m,σ,σ1)::fs) ls Q):WG T pr qa n m (i::l) e σ fs ls Q:=Av0 (.val hg hv) h1 h2 h
end
section
variable {Q:Env->St->Prop} {e:Env} {σ:St} {k:List It} {l:List AI}
end
def Ai{Q:Env->St->Prop}{e e':Env}{σ:St}{k:List It}{keep:List Nat}{c:AC}(h:W T pr (.l keep c::k) e' σ Q)(hk:e.keep keep=e'.keep keep):W T pr (.l keep c::k) e σ Q:=by
 obtain⟨e1,σ1,h,q⟩:=h
 cases h with
 | cAgain h=>exact⟨e1,σ1,.cAgain (hk ▸ h),q⟩
def Bdq(k:IntKind)(n:Int):V.cellB (.int k n)=true:=rfl
def Bdr(k:IntKind)(n:Int):V.rowB (.int k n)=true:=rfl
def Bds(l:List UInt8):V.cellB (.str l)=true:=rfl
def Bdt(l:List UInt8):V.rowB (.str l)=true:=rfl
def A9i(b:Bool):V.cellB (.bool b)=true:=rfl
def A9j(b:Bool):V.rowB (.bool b)=true:=rfl
def A9k:V.cellB V.nils=true:=rfl
def A9l:V.rowB V.nils=true:=rfl
def A9m:V.cellB V.nili=true:=rfl
def A9n:V.rowB V.nili=true:=rfl
def Bdu(t:Nat)(xs:List (List V)):V.cellB (.lst t xs)=true:=rfl
def Bdv(t:Nat)(xs:List (List V)):V.rowB (.lst t xs)=true:=rfl
def Bdw(i g o:Nat):V.cellB (.ptr i g o)=true:=rfl
def Bdx(i g o:Nat):V.rowB (.ptr i g o)=false:=rfl
def Bh4(i g o l m:Nat)(w:Bool):V.cellB (.sl i g o l m w)=true:=rfl
def Bh5(i g o l m:Nat)(w:Bool):V.rowB (.sl i g o l m w)=false:=rfl
def A9o:V.cellB V.nilp=true:=rfl
def A9p:V.rowB V.nilp=false:=rfl
def A9q:V.cellB V.nilf=true:=rfl
def A9r:V.rowB V.nilf=false:=rfl
def Bdy:V.cellB V.ifc=true:=rfl
def Bdz:V.rowB V.ifc=false:=rfl
def Bd0(r:List V)(o:Nat):V.cellB (.imm r o)=true:=rfl
def Bd1(r:List V)(o:Nat):V.rowB (.imm r o)=false:=rfl
def Bh6(f:Nat)(a c:List V):V.cellB (.fn f a c)=true:=rfl
def Bh7(f:Nat)(a c:List V):V.rowB (.fn f a c)=false:=rfl
def Bh8(i:Nat):V.cellB (.mp i)=true:=rfl
def Bh9(i:Nat):V.rowB (.mp i)=false:=rfl
