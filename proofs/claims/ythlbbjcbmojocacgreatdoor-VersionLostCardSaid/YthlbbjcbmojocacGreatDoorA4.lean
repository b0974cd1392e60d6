/- THE PLAIN MACHINE, joined texts: Oa Ob Oc Od Oe. -/
import Derived.Test.YthlbbjcbmojocacGreatDoorA3
import Derived.IntWalk
set_option linter.all false
/- Regions that draw their order, in general: reads float as long as what they read stays, effects keep their order. -/
namespace Go.Proofs.YthlbbjcbmojocacGreatDoor.KM
open Go
variable {T:Nat->Option AF} {pr:Nat->Option (List V->Option V)}
inductive Sg (T:Nat->Option AF) (pr:Nat->Option (List V->Option V)):AI->Env->St->V->St->Prop
 | off {i:AI} {e:Env} {σ:St}:Cx e i=some false->Sg T pr i e σ .skp σ
 | val {i:AI} {e:Env} {σ σ1:St} {v:V}:Cx e i=some true->Ae i.op e σ=some (v,σ1)->Sg T pr i e σ v σ1
 | prim {i:AI} {f:Nat} {args:List V} {e:Env} {σ:St} {s:List V->Option V} {vs:List V} {v:V}:Cx e i=some true->B9 e i.op=some (f,args)->pr f=some s ->
   Dr σ args=some vs->s vs=some v->Sg T pr i e σ v (after σ args v)
 | pure {i:AI} {f:Nat} {args:List V} {e:Env} {σ:St} {vs:List V} {v:V}:Cx e i=some true->B9 e i.op=some (f,args) ->
   Dr σ args=some vs->Fn T pr f vs v->Sg T pr i e σ v (after σ args v)
 | own {i:AI} {f:Nat} {args:List V} {e:Env} {σ σ0:St} {F:AF} {vs:List V} {v:V}:Cx e i=some true->B9 e i.op=some (f,args)->T f=some F->F.thr=false->F.spec=none ->
   Dr σ args=some vs->Ev T pr (.fn f vs [] v σ0)->Sg T pr i e σ (v.ren (·+σ.length)) (own σ args σ0)
 | any {i:AI} {f:Nat} {args:List V} {e:Env} {σ σ1:St} {F:AF} {v:V}:Cx e i=some true->B9 e i.op=some (f,args)->T f=some F->F.spec=none ->
   Ev T pr (.fn f args σ v σ1)->Sg T pr i e σ v σ1
 | thr {i:AI} {f:Nat} {args:List V} {e:Env} {σ σ1:St} {F:AF} {v:V}:Cx e i=some true->B9 e i.op=some (f,args)->T f=some F->F.thr=true->F.spec=none ->
   Ev T pr (.fn f args σ v σ1)->Sg T pr i e σ v σ1
 | spec {i:AI} {f:Nat} {args:List V} {e:Env} {σ σ1:St} {F:AF} {s:List V->St->Option (V × St)} {v:V}:Cx e i=some true->B9 e i.op=some (f,args)->T f=some F->F.thr=true->F.spec=some s ->
   s args σ=some (v,σ1)->Sg T pr i e σ v σ1
def Sg.ev{i:AI}{l:List AI}{e e':Env}{σ σ1 σ':St}{v:V}(h:Sg T pr i e σ v σ1)(g:Ev T pr (.ops l (e.putO i.dst v) σ1 e' σ')):Ev T pr (.ops (i::l) e σ e' σ'):=by
 cases h with
 | off h=>exact .opsSkip h g
 | val h hv=>exact .opsVal h hv g
 | prim h hc hp hx hs=>exact .opsPrim h hc hp hx hs g
 | pure h hc hx hf=>
  obtain⟨F,h1,h2,h3,v0,σ0,h4,h5⟩:=hf;exact .opsPure h hc h1 h2 h3 hx h4 h5 g
 | own h hc h1 h2 h3 hx h4=>exact .opsOwn h hc h1 h2 h3 hx h4 g
 | any h hc h1 h3 h4=>exact .opsAny h hc h1 h3 h4 g
 | thr h hc h1 h2 h3 h4=>exact .opsThr h hc h1 h2 h3 h4 g
 | spec h hc h1 h2 h3 h4=>exact .opsSpec h hc h1 h2 h3 h4 g
def Azo{e e':Env}{op:AO}(h:Agree e e' op.rd):B9 e op=B9 e' op:=by
 cases op with
 | call f xs=>simp only[B9];rw[Pf h]
 | callv x xs=>exact Abd h
 | _=>rfl
def Sg.move{i:AI}{e e':Env}{σ σ1:St}{v:V}(h:Sg T pr i e σ v σ1)(ha:Agree e e' i.rd):Sg T pr i e' σ v σ1:=by
 have hw:=Al5 ha;have qs:=Azo (op:=i.op) ha.l
 cases h with
 | off h=>exact .off (hw ▸ h)
 | val h hv=>exact .val (hw ▸ h) (Anu (op:=i.op) ha.l σ ▸ hv)
 | prim h hc hp hx hs=>exact .prim (hw ▸ h) (qs ▸ hc) hp hx hs
 | pure h hc hx hf=>exact .pure (hw ▸ h) (qs ▸ hc) hx hf
 | own h hc h1 h2 h3 hx h4=>exact .own (hw ▸ h) (qs ▸ hc) h1 h2 h3 hx h4
 | any h hc h1 h3 h4=>exact .any (hw ▸ h) (qs ▸ hc) h1 h3 h4
 | thr h hc h1 h2 h3 h4=>exact .thr (hw ▸ h) (qs ▸ hc) h1 h2 h3 h4
 | spec h hc h1 h2 h3 h4=>exact .spec (hw ▸ h) (qs ▸ hc) h1 h2 h3 h4
def Mo(x y:AI):Bool:=
 (match x.dst with
  | some d=>!y.rd.elem d&&!(y.dst==some d)
  | none=>true)&&(match y.dst with
  | some d=>!x.rd.elem d
  | none=>true)
def Ns(qa:List (List Nat))(ops:List AI):Bool:=
 qa.length==ops.length&&(List.range ops.length).all fun j=>((qa.getD j []).all fun d=>decide (d<j))&&(List.range j).all fun i=>Ey qa ops.length j i||(match ops[i]?,ops[j]? with
  | some x,some y=>Mo x y
  | _,_=>false)
inductive TG (T:Nat->Option AF) (pr:Nat->Option (List V->Option V)) (qa:List (List Nat)) (n:Nat):Nat->List AI->Env->St->List (Nat × St × St)->List (Nat × (St->Prop))->Env->St->Prop
 | nil {k:Nat} {e:Env} {σ:St} {fs:List (Nat × St × St)} {ls:List (Nat × (St->Prop))}:TG T pr qa n k [] e σ fs ls e σ
 | read {k:Nat} {i:AI} {l:List AI} {e e':Env} {σ σ':St} {v:V} {fs:List (Nat × St × St)} {ls:List (Nat × (St->Prop))} (R:St->Prop):R σ->(∀ s,R s->Sg T pr i e s v s)->(∀ j s s1,(j,s,s1)∈fs->Ey qa n k j=true\/(R s1↔R s)) ->
   TG T pr qa n (k+1) l (e.putO i.dst v) σ fs ((k,R)::ls) e' σ'->TG T pr qa n k (i::l) e σ fs ls e' σ'
 | eff {k:Nat} {i:AI} {l:List AI} {e e':Env} {σ σ1 σ':St} {v:V} {fs:List (Nat × St × St)} {ls:List (Nat × (St->Prop))}:Sg T pr i e σ v σ1->(∀ j s s1,(j,s,s1)∈fs->Ey qa n k j=true)->(∀ j R,(j,R)∈ls->Ey qa n k j=true\/(R σ1↔R σ)) ->
   TG T pr qa n (k+1) l (e.putO i.dst v) σ1 ((k,σ,σ1)::fs) ls e' σ'->TG T pr qa n k (i::l) e σ fs ls e' σ'
def Ate(T:Nat->Option AF)(pr:Nat->Option (List V->Option V))(i:AI)(e:Env)(s s1:St)(v:V):Option (St->Prop)->Prop
 | some R=>s1=s/\R s/\∀ s',R s'->Sg T pr i e s' v s'
 | none=>Sg T pr i e s v s1
structure Sr (T:Nat->Option AF) (pr:Nat->Option (List V->Option V)) (qa:List (List Nat)) (n k:Nat) (l:List AI) (e:Env) (σ:St) (fs:List (Nat × St × St)) (ls:List (Nat × (St->Prop))) (e':Env) (σ':St) (qf:Nat->Env) (st:Nat->St) (val:Nat->V) (ro:Nat->Option (St->Prop)):Prop where
 e0:qf k=e
 s0:st k=σ
 e1:qf (k+l.length)=e'
 s1:st (k+l.length)=σ'
 stp:∀ j i,l[j]?=some i->qf (k+j+1)=(qf (k+j)).putO i.dst (val (k+j))/\Ate T pr i (qf (k+j)) (st (k+j)) (st (k+j+1)) (val (k+j)) (ro (k+j))
 d0:∀ a b,a<b->b<l.length->ro (k+a)=none->ro (k+b)=none->Ey qa n (k+b) (k+a)=true
 d4:∀ b j s s1,b<l.length->ro (k+b)=none->(j,s,s1)∈fs->Ey qa n (k+b) j=true
 d1:∀ a b R,a<l.length->b<l.length->ro (k+a)=some R->ro (k+b)=none->Ey qa n (k+a) (k+b)=true\/Ey qa n (k+b) (k+a)=true\/(R (st (k+b+1))↔R (st (k+b)))
 d2:∀ a R j s s1,a<l.length->ro (k+a)=some R->(j,s,s1)∈fs->Ey qa n (k+a) j=true\/(R s1↔R s)
 d3:∀ b j R,b<l.length->ro (k+b)=none->(j,R)∈ls->Ey qa n (k+b) j=true\/(R (st (k+b+1))↔R (st (k+b)))
def Jj{α:Type}(k:Nat)(x:α)(f:Nat->α):Nat->α:=fun m=>if m=k then x else f m
def Id{α:Type}{k:Nat}{x:α}{f:Nat->α}:Jj k x f (k+0)=x:=if_pos rfl
def Aed{α:Type}{k:Nat}{x:α}{f:Nat->α}:Jj k x f k=x:=if_pos rfl
def E5{α:Type}{k j:Nat}{x:α}{f:Nat->α}:Jj k x f (k+(j+1))=f (k+1+j):=by
 unfold Jj;rw[if_neg (by omega),show k+(j+1)=k+1+j by omega]
def Ps{α:Type}{k j:Nat}{x:α}{f:Nat->α}:Jj k x f (k+(j+1)+1)=f (k+1+j+1):=by
 unfold Jj;rw[if_neg (by omega),show k+(j+1)=k+1+j by omega]
def Wp{α:Type}{k:Nat}{x:α}{f:Nat->α}:Jj k x f (k+0+1)=f (k+1):=by
 unfold Jj;rw[if_neg (by omega)]
def Ix(k j:Nat):k+(j+1)=k+1+j:=by omega
def TG.sr{qa:List (List Nat)}{n k:Nat}{l:List AI}{e e':Env}{σ σ':St}{fs:List (Nat × St × St)}{ls:List (Nat × (St->Prop))}(h:TG T pr qa n k l e σ fs ls e' σ'):∃ qf st val ro,Sr T pr qa n k l e σ fs ls e' σ' qf st val ro:=by
 induction h with
 | @nil k e σ fs ls=>
  exact⟨fun _=>e,fun _=>σ,fun _=>.und,fun _=>none,⟨rfl,rfl,rfl,rfl,fun j i h=>by simp at h,fun a b _ h=>by simp at h,fun b j s s1 h=>by simp at h,fun a b R h=>by simp at h,fun a R j s s1 h=>by simp at h,fun b j R h=>by simp at h⟩⟩
 | @read k i l e e' σ σ' v fs ls R hR hs hchk _ ih=>
  obtain⟨qf,st,val,ro,q⟩:=ih;refine⟨Jj k e qf,Jj k σ st,Jj k v val,Jj k (some R) ro,⟨Aed,Aed,?_,?_,fun j x hx=>?_,fun a b jb hb h1 h2=>?_,fun b j s s1 hb h1 qj=>?_,fun a b R' ha hb h1 h2=>?_,fun a R' j s s1 ha h1 qj=>?_,fun b j R' hb h1 qj=>?_⟩⟩
  .rw[Am,E5];exact q.e1
  .rw[Am,E5];exact q.s1
  .cases j with
   | zero=>
    simp at hx;subst hx;rw[Id,Id,Id,Id,Wp,Wp,q.e0,q.s0];exact⟨rfl,rfl,hR,hs⟩
   | succ j=>
    rw[E5,E5,E5,E5,Ps,Ps];exact q.stp j x (by simpa using hx)
  .cases a with
   | zero=>rw[Id]at h1;cases h1
   | succ a=>
    cases b with
    | zero=>omega
    | succ b=>
     rw[E5]at h1 h2;rw[Ix k a,Ix k b];exact q.d0 a b (by omega) (by simpa using hb) h1 h2
  .cases b with
   | zero=>rw[Id]at h1;cases h1
   | succ b=>
    rw[E5]at h1;rw[Ix];exact q.d4 b j s s1 (by simpa using hb) h1 qj
  .cases b with
   | zero=>rw[Id]at h2;cases h2
   | succ b=>
    rw[E5]at h2
    cases a with
    | zero=>
     rw[Id]at h1;cases h1;have:=q.d3 b k R (by simpa using hb) h2 (by simp);rw[Ps,E5,Ix,Ll];rcases this with h | h
     .exact .inr (.inl h)
     .exact .inr (.inr h)
    | succ a=>
     rw[E5]at h1;rw[Ps,E5,Ix k a,Ix k b];exact q.d1 a b R' (by simpa using ha) (by simpa using hb) h1 h2
  .cases a with
   | zero=>
    rw[Id]at h1;cases h1;exact hchk j s s1 qj
   | succ a=>
    rw[E5]at h1;rw[Ix];exact q.d2 a R' j s s1 (by simpa using ha) h1 qj
  .cases b with
   | zero=>rw[Id]at h1;cases h1
   | succ b=>
    rw[E5]at h1;rw[Ps,E5,Ix];exact q.d3 b j R' (by simpa using hb) h1 (C4 _ qj)
 | @eff k i l e e' σ σ1 σ' v fs ls hs hbef hchk _ ih=>
  obtain⟨qf,st,val,ro,q⟩:=ih;refine⟨Jj k e qf,Jj k σ st,Jj k v val,Jj k none ro,⟨Aed,Aed,?_,?_,fun j x hx=>?_,fun a b jb hb h1 h2=>?_,fun b j s s1 hb h1 qj=>?_,fun a b R' ha hb h1 h2=>?_,fun a R' j s s1 ha h1 qj=>?_,fun b j R' hb h1 qj=>?_⟩⟩
  .rw[Am,E5];exact q.e1
  .rw[Am,E5];exact q.s1
  .cases j with
   | zero=>
    simp at hx;subst hx;rw[Id,Id,Id,Id,Wp,Wp,q.e0,q.s0];exact⟨rfl,hs⟩
   | succ j=>
    rw[E5,E5,E5,E5,Ps,Ps];exact q.stp j x (by simpa using hx)
  .cases b with
   | zero=>omega
   | succ b=>
    rw[E5]at h2
    cases a with
    | zero=>
     rw[Ix,Ll];exact q.d4 b k σ σ1 (by simpa using hb) h2 (by simp)
    | succ a=>
     rw[E5]at h1;rw[Ix k a,Ix k b];exact q.d0 a b (by omega) (by simpa using hb) h1 h2
  .cases b with
   | zero=>exact hbef j s s1 qj
   | succ b=>
    rw[E5]at h1;rw[Ix];exact q.d4 b j s s1 (by simpa using hb) h1 (C4 _ qj)
  .cases a with
   | zero=>rw[Id]at h1;cases h1
   | succ a=>
    rw[E5]at h1
    cases b with
    | zero=>
     have:=q.d2 a R' k σ σ1 (by simpa using ha) h1 (by simp);rw[Wp,Id,q.s0,Ix,Ll];rcases this with h | h
     .exact .inl h
     .exact .inr (.inr h)
    | succ b=>
     rw[E5]at h2;rw[Ps,E5,Ix k a,Ix k b];exact q.d1 a b R' (by simpa using ha) (by simpa using hb) h1 h2
  .cases a with
   | zero=>rw[Id]at h1;cases h1
   | succ a=>
    rw[E5]at h1;rw[Ix];exact q.d2 a R' j s s1 (by simpa using ha) h1 (C4 _ qj)
  .cases b with
   | zero=>
    rw[Wp,Id,q.s0];exact hchk j R' qj
   | succ b=>
    rw[E5]at h1;rw[Ps,E5,Ix];exact q.d3 b j R' (by simpa using hb) h1 qj
variable {T:Nat->Option AF} {pr:Nat->Option (List V->Option V)}
section
variable {qa:List (List Nat)} {ops:List AI} {e e1:Env} {σ σ1:St} {qf:Nat->Env} {st:Nat->St} {val:Nat->V} {ro:Nat->Option (St->Prop)}
structure StaP (qa:List (List Nat)) (ops:List AI):Prop where
 len:qa.length=ops.length
 dep:∀ j,j<ops.length->∀ d∈qa.getD j [],d<j
 pair:∀ i j x y,i<j->ops[i]?=some x->ops[j]?=some y->Ey qa ops.length j i=true\/Mo x y=true
def Arq(h:Ns qa ops=true):StaP qa ops:=by
 unfold Ns at h;simp only[Af,beq_iff_eq,Bp,E1,decide_eq_true_eq,Il]at h;refine⟨h.1,fun j hj d hd=>(h.2 j hj).1 d hd,fun i j x y qz hx hy=>?_⟩;have hj:j<ops.length:=(Ak.1 hy).1;rcases(h.2 j hj).2 i qz with h' | h'
 .exact .inl h'
 .rw[hx,hy]at h';exact .inr h'
def Atf{qa:List (List Nat)}{N:Nat}(qK:∀ j,j<N->∀ d∈qa.getD j [],d<j):∀ f j c,j<N->Ey qa f j c=true->c<j:=by
 intro f
 induction f with
 | zero=>intro j c _ h;simp[Ey]at h
 | succ f ih=>
  intro j c hj h;simp only[Ey,N5,Il,beq_iff_eq]at h;obtain⟨d,hd,h⟩:=h;have jc:=qK j hj d hd;rcases h with rfl | h
  .exact jc
  .have:=ih d c (by omega) h;omega
def X4(q:Sr T pr qa ops.length 0 ops e σ [] [] e1 σ1 qf st val ro):∀ i,i<=ops.length->EnvOK ops val e (fun j=>j<i) (qf i)
 | 0,_=>fun t=>.inr ⟨fun j hj=>by omega,by rw[q.e0]⟩
 | i+1,hi=>by
  have ih:=X4 q i (by omega);obtain⟨x,hx⟩:∃ x,ops[i]?=some x:=⟨ops[i],Bc (by omega)⟩;have hs:=(q.stp i x hx).1;simp only[E3]at hs;rw[hs];exact(ih.put hx (fun j t hj _ _=>hj)).iff (fun j=>by omega)
def W6(ops:List AI)(ro:Nat->Option (St->Prop))(j:Nat):Prop:=j<ops.length/\ro j=none
def Nd(q:Sr T pr qa ops.length 0 ops e σ [] [] e1 σ1 qf st val ro){α:Sort _}(f:St->α):∀ (d a:Nat),a+d<=ops.length->(∀ k,a<=k->k<a+d->W6 ops ro k->f (st (k+1))=f (st k))->f (st (a+d))=f (st a)
 | 0,a,_,_=>rfl
 | d+1,a,hle,h=>by
  have ih:=Nd q f d a (by omega) (fun k h1 h2=>h k h1 (by omega));rw[<-ih];obtain⟨x,hx⟩:∃ x,ops[a+d]?=some x:=⟨ops[a+d],Bc (by omega)⟩
  cases hc:ro (a+d) with
  | none=>exact h (a+d) (by omega) (by omega) ⟨by omega,hc⟩
  | some R=>
   have:=(q.stp (a+d) x hx).2;simp only[E3,hc,Ate]at this;rw[show a+(d+1)=a+d+1 from rfl,this.1]
def W9(ops:List AI)(ro:Nat->Option (St->Prop))(st:Nat->St)(qb:List Nat)(S':St):Prop:=
 ∃ m,m<=ops.length/\S'=st m/\∀ j,W6 ops ro j->(j<m↔j∈qb)
def Apf(qd:StaP qa ops)(q:Sr T pr qa ops.length 0 ops e σ [] [] e1 σ1 qf st val ro):∀ (fuel t:Nat) (qb:List Nat) (E:Env) (S':St),qb.length+fuel=ops.length->qb.Nodup->(∀ i∈qb,i<ops.length)->DC qa qb ->
  EnvOK ops val e (·∈qb) E->W9 ops ro st qb S'->∃ E',Ev T pr (.ops (Dt ops (Nl qa fuel t qb)) E S' E' σ1)/\∀ m,E'.get m=e1.get m
 | 0,t,qb,E,S',hl,hn,hlt,hdc,hE,⟨m,hm,hS,heff⟩=>by
  have qi:∀ j,j<ops.length->j∈qb:=fun j hj=>Atd hn hlt (by omega) hj
  refine⟨E,?_,fun k=>?_⟩
  .have jj:S'=σ1:=by
    rw[hS,<-q.s1,E3];obtain⟨d,hd⟩:∃ d,m+d=ops.length:=⟨ops.length - m,by omega⟩;rw[<-hd];refine(Nd q id d m (by omega) (fun k h1 h2 he=>?_)).symm;have:=(heff k he).2 (qi k (by omega));omega
   rw[jj];exact .opsNil
  .have ht:=X4 q ops.length (Ai _);have qS:=q.e1;rw[E3]at qS;rw[<-qS];exact hE.same ht (fun j hj=>⟨fun h=>hlt j h,fun h=>qi j h⟩)
 | fuel+1,t,qb,E,S',hl,hn,hlt,hdc,hE,⟨m,hm,hS,heff⟩=>by
  have qC:∃ j,j<ops.length/\j ∉ qb/\∀ d∈qa.getD j [],d∈qb:=by
   have je:∃ j,j<ops.length/\j ∉ qb:=by
    rcases Classical.em (∃ j,j<ops.length/\j ∉ qb) with h | h
    .exact h
    .exfalso;have qP:∀ j,j<ops.length->j∈qb:=fun j hj=>Classical.byContradiction fun hc=>h ⟨j,hj,hc⟩
     have h1:=Abn ops.length qb qP;omega
   have:∀ k,∀ j,j<=k->j<ops.length->j ∉ qb->∃ j,j<ops.length/\j ∉ qb/\∀ d∈qa.getD j [],d∈qb:=by
    intro k
    induction k with
    | zero=>
     intro j hj h1 h2;obtain rfl:j=0:=by omega
     exact⟨0,h1,h2,fun d hd=>absurd (qd.dep 0 h1 d hd) (by omega)⟩
    | succ k ih=>
     intro j hj h1 h2;by_cases qi:∀ d∈qa.getD j [],d∈qb
     .exact⟨j,h1,h2,qi⟩
     .obtain⟨d,hd,qI⟩:∃ d,d∈qa.getD j []/\d ∉ qb:=Classical.byContradiction fun hc=>qi fun d hd=>Classical.byContradiction fun qI=>hc ⟨d,hd,qI⟩
      have:=qd.dep j h1 d hd;exact ih d (by omega) (by omega) qI
   obtain⟨j,h1,h2⟩:=je;exact this j j (Ai _) h1 h2
  unfold Nl;generalize qW:(List.range qa.length).filter (Lt qa qb)=rs
  have qB:0<rs.length:=by
   obtain⟨j,h1,h2,h3⟩:=qC
   have:j∈rs:=by
    rw[<-qW,Pc];refine⟨by rw[E1,qd.len];exact h1,?_⟩;simp only[Lt,Af,K0,Bp];refine⟨?_,fun d hd=>H1.2 (h3 d hd)⟩
    cases hel:qb.elem j with
    | false=>rfl
    | true=>exact absurd (H1.1 hel) h2
   exact Afq this
  have qv:rs[t % rs.length]?=some (rs[t % rs.length]'(Pg _ qB)):=Bc _;generalize rs[t % rs.length]'(Pg _ qB)=i at qv;rw[qv];have qj:i∈rs:=Ge qv;rw[<-qW,Pc]at qj;obtain⟨qT,qg⟩:=qj;have hi:i<ops.length:=by rw[E1,qd.len]at qT;exact qT
  simp only[Lt,Af,K0,Bp]at qg;have qt:i ∉ qb:=fun h=>by rw[H1.2 h]at qg;cases qg.1
  have qm:∀ d∈qa.getD i [],d∈qb:=fun d hd=>H1.1 (qg.2 d hd)
  obtain⟨x,hx⟩:∃ x,ops[i]?=some x:=⟨ops[i],Bc hi⟩
  have qX:∀ j y,i<j->ops[j]?=some y->j∈qb->Mo x y=true:=fun j y qz hy hj=>by
   rcases qd.pair i j x y qz hx hy with h | h
   .exact absurd (Q9 hdc _ j i h hj) qt
   .exact h
  have jd:∀ j y,j<i->ops[j]?=some y->j ∉ qb->Mo y x=true:=fun j y qz hy hj=>by
   rcases qd.pair j i y x qz hy hx with h | h
   .exact absurd (Vf hdc qm h) hj
   .exact h
  have qh:∀ {j t:Nat},Nq ops j=some t->∃ y,ops[j]?=some y/\y.dst=some t:=fun {j t} h=>by
   unfold Nq at h
   cases hy:ops[j]? with
   | none=>rw[hy]at h;simp at h
   | some y=>rw[hy]at h;exact⟨y,rfl,by simpa using h⟩
  have qo:Agree (qf i) E x.rd:=fun t ht=>by
   refine(X4 q i (by omega)).same hE (fun j hj=>?_);obtain⟨y,hy,qF⟩:=qh hj;constructor
   .intro qw;rcases Classical.em (j∈qb) with h | h
    .exact h
    .have:=jd j y qw hy h;simp only[Mo,qF,Af,K0]at this;have h1:=this.1.1;rw[H1.2 ht]at h1;cases h1
   .intro qU;rcases Sn j i with h | h | h
    .exact h
    .subst h;exact absurd qU qt
    .have:=qX j y h hy qU;simp only[Mo,qF,Af,K0]at this;have h1:=this.2;rw[H1.2 ht]at h1;cases h1
  obtain⟨qL,qe⟩:=q.stp i x hx;simp only[E3]at qL qe
  have qZ:EnvOK ops val e (·∈i::qb) (E.putO x.dst (val i)):=(hE.put hx (fun j t hj jl jg=>by
   obtain⟨y,hy,qF⟩:=qh jg;rcases Sn j i with h | h | h
   .exact h
   .subst h;exact absurd hj qt
   .have:=qX j y h hy hj;simp only[Mo,jl,qF,Af,K0]at this;have h1:=this.1.2
    simp at h1)).iff (fun j=>by simp[Bj])
  have qJ:DC qa (i::qb):=fun j hj d hd=>by
   rcases Bj.1 hj with rfl | hj
   .exact C4 _ (qm d hd)
   .exact C4 _ (hdc j hj d hd)
  have next:∀ S2,W9 ops ro st (i::qb) S2->Sg T pr x E S' (val i) S2->∃ E',Ev T pr (.ops (Dt ops (i::Nl qa fuel (t / rs.length) (i::qb))) E S' E' σ1)/\∀ m,E'.get m=e1.get m:=fun S2 qG jk=>by
   obtain⟨E',h1,h2⟩:=Apf qd q fuel (t / rs.length) (i::qb) _ S2 (by simp;omega) (Af4.2 ⟨qt,hn⟩) (fun j hj=>by
    rcases Bj.1 hj with rfl | hj
    .exact hi
    .exact hlt j hj) qJ qZ qG
   refine⟨E',?_,h2⟩
   have:Dt ops (i::Nl qa fuel (t / rs.length) (i::qb))=x::Dt ops (Nl qa fuel (t / rs.length) (i::qb)):=by
    unfold Dt;rw[Jm,hx]
   rw[this];exact jk.ev h1
  have hb:=Atf qd.dep
  cases hro:ro i with
  | none=>
   rw[hro]at qe;have qe:Sg T pr x (qf i) (st i) (val i) (st (i+1)):=qe
   have qp:∀ k,W6 ops ro k->(k∈qb↔k<i):=fun k ⟨qN,qD⟩=>by
    constructor
    .intro hk;rcases Sn k i with h | h | h
     .exact h
     .subst h;exact absurd hk qt
     .have:=q.d0 i k h qN (by simpa using hro) (by simpa using qD);simp only[E3]at this;exact absurd (Q9 hdc _ k i this hk) qt
    .intro hk;have:=q.d0 k i hk hi (by simpa using qD) (by simpa using hro);simp only[E3]at this;exact Vf hdc qm this
   have ja:S'=st i:=by
    rw[hS];rcases Age m i with qx | qx
    .obtain⟨d,rfl⟩:=Sc qx
     exact(Nd q id d m (by omega) (fun k a1 a2 he=>by
      have:=(heff k he).2 ((qp k he).2 a2)
      omega)).symm
    .obtain⟨d,rfl⟩:=Sc qx
     exact Nd q id d i (by omega) (fun k a1 a2 he=>by
      have:=(qp k he).1 ((heff k he).1 a2)
      omega)
   rw[ja]at next ⊢
   refine next (st (i+1)) ⟨i+1,by omega,rfl,fun k he=>?_⟩ (qe.move qo)
   rw[Bj,qp k he];omega
  | some R=>
   rw[hro]at qe;obtain⟨jm,qV,jh⟩:st (i+1)=st i/\R (st i)/\∀ s',R s'->Sg T pr x (qf i) s' (val i) s':=qe
   have qG:W9 ops ro st (i::qb) S':=⟨m,hm,hS,fun k he=>by
    rw[heff k he,Bj];constructor
    .exact .inr
    .rintro(rfl | h)
     .rw[he.2]at hro;cases hro
     .exact h⟩
   refine next S' qG ((jh S' ?_).move qo)
   have qA:∀ k,W6 ops ro k->(k∈qb/\i<k\/k ∉ qb/\k<i)->R (st (k+1))=R (st k):=fun k ⟨qN,qD⟩ hk=>by
    have hd:=q.d1 i k R hi qN (by simpa using hro) (by simpa using qD);simp only[E3]at hd;rcases hd with h | h | h
    .have qy:=Vf hdc qm h;rcases hk with⟨_,qw⟩ | ⟨hk,_⟩
     .have:=hb _ i k hi h;omega
     .exact absurd qy hk
    .rcases hk with⟨hk,_⟩ | ⟨hk,qw⟩
     .exact absurd (Q9 hdc _ k i h hk) qt
     .have:=hb _ k i (by omega) h;omega
    .exact propext h
   rw[hS];rcases Age m i with qx | qx
   .obtain⟨d,rfl⟩:=Sc qx
    have:=Nd q R d m (by omega) (fun k a1 a2 he=>qA k he (.inr ⟨fun qy=>by
     have:=(heff k he).2 qy
     omega,a2⟩))
    rw[<-this];exact qV
   .obtain⟨d,rfl⟩:=Sc qx
    have:=Nd q R d i (by omega) (fun k a1 a2 he=>by
     have qy:=(heff k he).1 a2;rcases Nat.eq_or_lt_of_le a1 with rfl | h
     .exact absurd qy qt
     .exact qA k he (.inl ⟨qy,h⟩))
    rw[this];exact qV
def Apg(qd:Ns qa ops=true)(h:TG T pr qa ops.length 0 ops e σ [] [] e1 σ1):∃ E2:Nat->Env,(∀ t,Ev T pr (.ops (Dt ops (O2 qa t)) e σ (E2 t) σ1))/\∀ t n,(E2 t).get n=e1.get n:=by
 obtain⟨qf,st,val,ro,q⟩:=h.sr;have S:=Arq qd
 have qQ:∀ t,∃ E',Ev T pr (.ops (Dt ops (O2 qa t)) e σ E' σ1)/\∀ m,E'.get m=e1.get m:=fun t=>by
  have:=Apf S q qa.length t [] e σ (by simp[S.len]) U3 (fun i hi=>by cases hi) (fun j hj=>by cases hj) (fun t=>.inr ⟨(fun j hj=>by cases hj),rfl⟩) ⟨0,Au _,q.s0.symm,fun j _=>by simp⟩;unfold O2;rw[Ahm];exact this
 exact⟨fun t=>(qQ t).choose,fun t=>(qQ t).choose_spec.1,fun t=>(qQ t).choose_spec.2⟩
end
variable {T:Nat->Option AF} {pr:Nat->Option (List V->Option V)}
mutual
def V.eqv:V->V->Bool
 | .und,.und=>true
 | .skp,.skp=>true
 | .bool a,.bool b=>a==b
 | .int k n,.int k' m=>decide (k=k')&&decide (n=m)
 | .str a,.str b=>decide (a=b)
 | .nili,.nili=>true
 | .ifc,.ifc=>true
 | .nils,.nils=>true
 | .nilp,.nilp=>true
 | .nilf,.nilf=>true
 | .lst t xs,.lst t' ys=>decide (t=t')&&Zv xs ys
 | .imm r o,.imm r' o'=>decide (o=o')&&Nx r r'
 | .ptr i g o,.ptr i' g' o'=>decide (i=i')&&(decide (g=g')&&decide (o=o'))
 | .sl i g o l m w,.sl i' g' o' l' m' w'=>decide (i=i')&&(decide (g=g')&&(decide (o=o')&&(decide (l=l')&&(decide (m=m')&&w==w'))))
 | .fn f a c,.fn f' a' c'=>decide (f=f')&&(Nx a a'&&Nx c c')
 | .mp i,.mp i'=>decide (i=i')
 | .agg a,.agg b=>Nx a b
 | .tup a,.tup b=>Nx a b
 | _,_=>false
def Nx:List V->List V->Bool
 | [],[]=>true
 | a::r,b::s=>a.eqv b&&Nx r s
 | _,_=>false
def Zv:List (List V)->List (List V)->Bool
 | [],[]=>true
 | a::r,b::s=>Nx a b&&Zv r s
 | _,_=>false
end
mutual
theorem Wc:∀ {a b:V},a.eqv b=true->a=b
 | .und,b,h=>by cases b<;>simp[V.eqv]at h<;>rfl
 | .skp,b,h=>by cases b<;>simp[V.eqv]at h<;>rfl
 | .bool _,b,h=>by cases b<;>simp[V.eqv]at h;rw[h]
 | .int _ _,b,h=>by cases b<;>simp[V.eqv]at h;rw[h.1,h.2]
 | .str _,b,h=>by cases b<;>simp[V.eqv]at h;rw[h]
 | .nili,b,h=>by cases b<;>simp[V.eqv]at h<;>rfl
 | .ifc,b,h=>by cases b<;>simp[V.eqv]at h<;>rfl
 | .nils,b,h=>by cases b<;>simp[V.eqv]at h<;>rfl
 | .nilp,b,h=>by cases b<;>simp[V.eqv]at h<;>rfl
 | .nilf,b,h=>by cases b<;>simp[V.eqv]at h<;>rfl
 | .lst _ _,b,h=>by cases b<;>simp[V.eqv]at h;rw[h.1,Aph h.2]
 | .imm _ _,b,h=>by cases b<;>simp[V.eqv]at h;rw[h.1,Ra h.2]
 | .ptr _ _ _,b,h=>by cases b<;>simp[V.eqv]at h;rw[h.1,h.2.1,h.2.2]
 | .sl _ _ _ _ _ _,b,h=>by cases b<;>simp[V.eqv]at h;rw[h.1,h.2.1,h.2.2.1,h.2.2.2.1,h.2.2.2.2.1,h.2.2.2.2.2]
 | .fn _ _ _,b,h=>by cases b<;>simp[V.eqv]at h;rw[h.1,Ra h.2.1,Ra h.2.2]
 | .mp _,b,h=>by cases b<;>simp[V.eqv]at h;rw[h]
 | .agg _,b,h=>by cases b<;>simp[V.eqv]at h;rw[Ra h]
 | .tup _,b,h=>by cases b<;>simp[V.eqv]at h;rw[Ra h]
theorem Ra:∀ {a b:List V},Nx a b=true->a=b
 | [],b,h=>by cases b<;>simp[Nx]at h;rfl
 | _::_,b,h=>by cases b<;>simp[Nx]at h;rw[Wc h.1,Ra h.2]
theorem Aph:∀ {a b:List (List V)},Zv a b=true->a=b
 | [],b,h=>by cases b<;>simp[Zv]at h;rfl
 | _::_,b,h=>by cases b<;>simp[Zv]at h;rw[Ra h.1,Aph h.2]
end
def Um(qa:List (List Nat)):Nat->Nat->Nat->Bool
 | 0,_,_=>false
 | f+1,j,i=>(qa.getD j []).any fun d=>d==i||(decide (i<d)&&Um qa f d i)
def Aca{qa:List (List Nat)}:∀ {f j i:Nat},Um qa f j i=true->Ey qa f j i=true
 | 0,_,_,h=>by simp[Um]at h
 | f+1,j,i,h=>by
  simp only[Um,Ey,N5,Il,Af]at h ⊢;obtain⟨d,hd,h⟩:=h;exact⟨d,hd,h.imp id fun h=>Aca h.2⟩
inductive RD where
 | ev (op:AO) (e:Env) (v:V)
 | ov (args vs:List V)
def Akw:AO->Bool
 | .load _ _ _ | .mlk _ _ _=>true
 | _=>false
def Agz{op:AO}(h:Akw op=true){e:Env}{σ σ1:St}{v:V}(hv:Ae op e σ=some (v,σ1)):σ1=σ:=by
 cases op with
 | load n one x=>
  simp only[Ae,Bu]at hv;obtain⟨_,_,h⟩:=hv;cases h;rfl
 | mlk z x k=>
  simp only[Ae]at hv
  split at hv
  .split at hv
   .cases hv;rfl
   .cases hv
  .cases hv
 | _=>cases h
def RD.R:RD->St->Prop
 | .ev op e v,s=>Ae op e s=some (v,s)
 | .ov args vs,s=>Dr s args=some vs
def Ajv:Option (V × St)->Option (V × St)->Bool
 | some a,some b=>a.1.eqv b.1
 | _,_=>false
def Ajw:Option (List V)->Option (List V)->Bool
 | some a,some b=>Nx a b
 | _,_=>false
def RD.same:RD->St->St->Bool
 | .ev op e _,s,s1=>Akw op&&Ajv (Ae op e s) (Ae op e s1)
 | .ov args _,s,s1=>Ajw (Dr s args) (Dr s1 args)
def RD.same_ok{r:RD}{s s1:St}(h:r.same s s1=true):r.R s1↔r.R s:=by
 cases r with
 | ev op e v=>
  simp only[RD.same,Af]at h;simp only[RD.R];obtain⟨h0,h⟩:=h
  cases h1:Ae op e s with
  | none=>rw[h1]at h;simp[Ajv]at h
  | some a=>
   cases h2:Ae op e s1 with
   | none=>rw[h1,h2]at h;simp[Ajv]at h
   | some b=>
    rw[h1,h2]at h;have:=Wc h;obtain⟨a1,a2⟩:=a;obtain⟨b1,b2⟩:=b;obtain rfl:=Agz h0 h1;obtain rfl:=Agz h0 h2;simp only at this;subst this;simp
 | ov args vs=>
  simp only[RD.same]at h;simp only[RD.R]
  cases h1:Dr s args with
  | none=>rw[h1]at h;simp[Ajw]at h
  | some a=>
   cases h2:Dr s1 args with
   | none=>rw[h1,h2]at h;simp[Ajw]at h
   | some b=>
    rw[h1,h2]at h;rw[Ra h]
abbrev Efs:=List (Nat × St × St)
abbrev Rds:=List (Nat × RD)
def Av1(qa:List (List Nat))(n k:Nat)(fs:Efs)(r:RD):Bool:=fs.all fun p=>Um qa n k p.1||r.same p.2.1 p.2.2
def Akx(qa:List (List Nat))(n k:Nat)(fs:Efs)(ls:Rds)(σ σ1:St):Bool:=(fs.all fun p=>Um qa n k p.1)&&ls.all fun p=>Um qa n k p.1||p.2.same σ σ1
def Aee(T:Nat->Option AF)(pr:Nat->Option (List V->Option V))(f:Nat):Bool:=
 match pr f with
 | some _=>true
 | none=>match T f with
  | some F=>!F.thr
  | none=>false
def Ajx(T:Nat->Option AF)(pr:Nat->Option (List V->Option V))(i:AI)(e:Env)(σ:St)(v:V):Nat × RD:=
 if Zf i.op then(match B9 e i.op with
  | some (f,args)=>if Aee T pr f then(if(Ah args).isEmpty then(0,.ov args []) else if v.flatV then(1,.ov args ((Dr σ args).getD [])) else(2,.ov [] [])) else(2,.ov [] [])
  | none=>(2,.ov [] []))
 else if F8 T pr i.op==0 then(0,.ov [] []) else if Akw i.op then(1,.ev i.op e v) else(2,.ov [] [])
def Oy(T:Nat->Option AF)(pr:Nat->Option (List V->Option V))(rf:Bool->P8)(qa:List (List Nat))(n:Nat):Nat->List AI->Env->St->Efs->Rds->Option (Env × St)
 | _,[],e,σ,_,_=>some (e,σ)
 | k,i::l,e,σ,fs,ls=>match Cx e i with
  | some true=>(Uu rf false i.op e σ).bind fun p=>match Ajx T pr i e σ p.1 with
   | (0,_)=>Oy T pr rf qa n (k+1) l (e.putO i.dst p.1) σ fs ls
   | (1,r)=>if Av1 qa n k fs r then Oy T pr rf qa n (k+1) l (e.putO i.dst p.1) σ fs ((k,r)::ls) else none
   | (_,_)=>if Akx qa n k fs ls σ p.2 then Oy T pr rf qa n (k+1) l (e.putO i.dst p.1) p.2 ((k,σ,p.2)::fs) ls else none
  | some false=>Oy T pr rf qa n (k+1) l (e.putO i.dst .skp) σ fs ls
  | none=>none
def Au5(T:Nat->Option AF)(pr:Nat->Option (List V->Option V))(rc:Lf)(rf:Bool->P8):Lf:=fun k e σ=>
 match k with
 | []=>some (e,σ)
 | .b _::k=>rc k e σ
 | .l keep c::k=>rc (.c c::.l keep c::k) (e.keep keep) σ
 | .c c::k=>match c with
  | .skip=>rc k e σ
  | .reg kill ops=>(R5 rf false ops e σ).bind fun p=>rc k (p.1.del kill) p.2
  | .drw kill qa ops=>(Oy T pr rf qa ops.length 0 ops e σ [] []).bind fun p=>rc k (p.1.del kill) p.2
  | .seq a b=>rc (.c a::.c b::k) e σ
  | .cond c kill x y=>(Au4 (Ab e c)).bind fun z=>rc (.c (if z then x else y)::k) (e.del kill) σ
  | .blk id c=>rc (.c c::.b id::k) e σ
  | .loop keep c=>rc (.l keep c::k) e σ
  | .exit id=>(exitTo id k).bind fun k'=>rc k' e σ
  | .ret=>some (e,σ)
def Mw(T:Nat->Option AF)(pr:Nat->Option (List V->Option V)):Nat->Lf
 | 0=>fun _ _ _=>none
 | n+1=>Au5 T pr (Mw T pr n) (Nr T pr (Mw T pr n))
variable {T:Nat->Option AF} {pr:Nat->Option (List V->Option V)}
def K9:AC->Bool
 | .drw _ qa ops=>Ns qa ops
 | .seq a b=>K9 a&&K9 b
 | .cond _ _ a b=>K9 a&&K9 b
 | .blk _ c=>K9 c
 | .loop _ c=>K9 c
 | _=>true
def La:It->Bool
 | .c c=>K9 c
 | .b _=>true
 | .l _ c=>K9 c
def Abe{id:Nat}:∀ {k k':List It},exitTo id k=some k'->k.all (La)=true->k'.all (La)=true
 | [],_,h,_=>by cases h
 | .b i::k,k',h,hk=>by
  simp only[exitTo]at h;simp only[Aw,Af]at hk
  split at h
  .cases h;exact hk.2
  .exact Abe h hk.2
 | .c c::k,k',h,hk=>by
  simp only[exitTo]at h;simp only[Aw,Af]at hk;exact Abe h hk.2
 | .l ks c::k,k',h,hk=>by
  simp only[exitTo]at h;simp only[Aw,Af]at hk;exact Abe h hk.2
section
variable (qd:∀ f F,T f=some F->F.spec=none->K9 F.body=true)
def Ahn{rc:Lf}(ih:∀ k e σ e' σ',k.all (La)=true->rc k e σ=some (e',σ')->Ev T pr (.code k e σ e' σ')){f:Nat}{F:AF}(hT:T f=some F)(qc:F.spec=none)(hc:K9 F.body=true){vs:List V}{σ σ':St}{v:V}(h:Jz rc F vs σ=some (v,σ')):Ev T pr (.fn f vs σ v σ'):=by
 unfold Jz at h
 split at h
 .rename_i hl;obtain⟨⟨e1,σ1⟩,hp,h⟩:=Ef.1 h;unfold Av0 at h;obtain⟨v',hv,h⟩:=Ef.1 h;have hE:=ih _ _ _ _ _ (by simp[La,hc]) hp;rcases A18 h with⟨h1,h2,h3,rfl,rfl⟩ | ⟨js,h1,rfl,rfl⟩
  .exact .fn hT qc hl hE hv h1 h2 (fun i ob hi ho=>.inr (h3 i ob hi ho))
  .exact .fnL hT qc hl hE hv h1
 .cases h
include qd in
def Api{rc:Lf}(ih:∀ k e σ e' σ',k.all (La)=true->rc k e σ=some (e',σ')->Ev T pr (.code k e σ e' σ')){s:Bool}{f:Nat}{args:List V}{σ σ1:St}{v:V}(h:Nr T pr rc s f args σ=some (v,σ1)):CallR T pr s f args σ v σ1:=by
 unfold Nr at h
 have qr:∀ {s:Bool},¬ ((s&&!(Ah args).isEmpty)=true)->s=true->Ah args=[]:=fun {s} h1 h2=>by
  subst h2;simpa using h1
 split at h
 .rename_i q hq
  split at h
  .cases h
  .rename_i hs;obtain⟨ws,hx,h⟩:=Ef.1 h;obtain⟨v',hv,h⟩:=Bu.1 h;cases h;exact .prim hq (qr hs) hx hv
 .rename_i hq
  split at h
  .cases h
  .rename_i F hT
   split at h
   .rename_i q ht qc;exact .spec hq hT ht qc h
   .rename_i ht qc;exact .thr hq hT ht qc (Ahn ih hT qc (qd _ _ hT qc) h)
   .rename_i ht qc
    split at h
    .cases h
    .rename_i hs;unfold Zu at h;obtain⟨ws,hx,h⟩:=Ef.1 h;obtain⟨⟨v0,σ0⟩,hb,h⟩:=Ef.1 h;obtain⟨v',hv,h⟩:=Bu.1 h;cases h;exact .pure (qr hs) hx ⟨F,hT,ht,qc,v0,σ0,Ahn ih hT qc (qd _ _ hT qc) hb,hv⟩
   .cases h
include qd in
def Ah6{rc:Lf}(ih:∀ k e σ e' σ',k.all (La)=true->rc k e σ=some (e',σ')->Ev T pr (.code k e σ e' σ')):∀ {l:List AI} {e e':Env} {σ σ':St},R5 (Nr T pr rc) false l e σ=some (e',σ')->Ev T pr (.ops l e σ e' σ')
 | [],e,e',σ,σ',h=>by cases h;exact .opsNil
 | i::l,e,e',σ,σ',h=>by
  unfold R5 at h
  split at h
  .rename_i hw;obtain⟨⟨v,σ1⟩,hp,h⟩:=Ef.1 h;have hE:=Ah6 ih h;rcases Arp hp with⟨_,hv⟩ | ⟨f,args,hc,hf,_⟩
   .exact .opsVal hw hv hE
   .cases Api qd ih hf with
    | prim h1 _ h2 h3=>exact .opsPrim hw hc h1 h2 h3 hE
    | pure _ h2 h3=>
     obtain⟨F,hT,ht,qc,v0,σ0,h4,h5⟩:=h3;exact .opsPure hw hc hT ht qc h2 h4 h5 hE
    | thr _ hT ht qc h4=>exact .opsThr hw hc hT ht qc h4 hE
    | spec _ hT ht qc h4=>exact .opsSpec hw hc hT ht qc h4 hE
  .rename_i hw;exact .opsSkip hw (Ah6 ih h)
  .cases h
include qd in
def Acs{rc:Lf}(ih:∀ k e σ e' σ',k.all La=true->rc k e σ=some (e',σ')->Ev T pr (.code k e σ e' σ')){qa:List (List Nat)}{n:Nat}:∀ {l:List AI} {k:Nat} {e e':Env} {σ σ':St} {fs:Efs} {ls:Rds} {qn:List (Nat × (St->Prop))},Oy T pr (Nr T pr rc) qa n k l e σ fs ls=some (e',σ') ->
  (∀ j s s1,(j,s,s1)∈fs->True)->(∀ j R,(j,R)∈qn->(∀ s,R s)\/∃ r,(j,r)∈ls/\R=RD.R r)->TG T pr qa n k l e σ fs qn e' σ'
 | [],k,e,e',σ,σ',fs,ls,qn,h,_,_=>by cases h;exact .nil
 | i::l,k,e,e',σ,σ',fs,ls,qn,h,hfs,qE=>by
  unfold Oy at h
  have qu:∀ {v:V},(∀ s,Sg T pr i e s v s)->Oy T pr (Nr T pr rc) qa n (k+1) l (e.putO i.dst v) σ fs ls=some (e',σ')->TG T pr qa n k (i::l) e σ fs qn e' σ':=fun {v} hs h=>
   .read (fun _=>True) trivial (fun s _=>hs s) (fun _ _ _ _=>.inr Iff.rfl) (Acs ih h (fun _ _ _ _=>trivial) (fun j R hm=>by
    rcases Bj.1 hm with hm | hm
    .cases hm;exact .inl fun _=>trivial
    .exact qE j R hm))
  split at h
  .rename_i hw;obtain⟨⟨v,σ1⟩,hp,h⟩:=Ef.1 h
   have qY:∀ {r:RD},RD.R r σ->(∀ s,RD.R r s->Sg T pr i e s v s)->Av1 qa n k fs r=true->Oy T pr (Nr T pr rc) qa n (k+1) l (e.putO i.dst v) σ fs ((k,r)::ls)=some (e',σ')->TG T pr qa n k (i::l) e σ fs qn e' σ':=fun {r} h0 hs qk h=>
    .read (RD.R r) h0 hs (fun j s s1 hm=>by
     have:=Bp.1 qk _ hm;simp only[Il]at this
     exact this.imp Aca RD.same_ok) (Acs ih h (fun _ _ _ _=>trivial) (fun j R hm=>by
      rcases Bj.1 hm with hm | hm
      .cases hm;exact .inr ⟨r,C5,rfl⟩
      .exact(qE j R hm).imp id fun⟨r',h1,h2⟩=>⟨r',C4 _ h1,h2⟩))
   have eff:Sg T pr i e σ v σ1->Akx qa n k fs ls σ σ1=true->Oy T pr (Nr T pr rc) qa n (k+1) l (e.putO i.dst v) σ1 ((k,σ,σ1)::fs) ls=some (e',σ')->TG T pr qa n k (i::l) e σ fs qn e' σ':=fun hs qk h=>by
    unfold Akx at qk;simp only[Af]at qk;refine .eff hs (fun j s s1 hm=>Aca (Bp.1 qk.1 _ hm)) (fun j R hm=>?_) (Acs ih h (fun _ _ _ _=>trivial) qE);rcases qE j R hm with h' | ⟨r,h1,rfl⟩
    .exact .inr ⟨fun _=>h' _,fun _=>h' _⟩
    .have:=Bp.1 qk.2 _ h1;simp only[Il]at this;exact this.imp Aca RD.same_ok
   rcases Arp hp with⟨ji,hv⟩ | ⟨f,args,hc,hf,_⟩
   .have hs:Sg T pr i e σ v σ1:=.val hw hv;unfold Ajx at h;rw[ji]at h;simp only[F6,if_false]at h
    split at h
    .rename_i hk
     split at hk
     .rename_i h0;refine qu (fun s=>.val hw ((Abj (by simpa using h0) hv).2 s)) h
     .split at hk
      .cases hk
      .cases hk
    .rename_i r hk
     split at hk
     .cases hk
     .split at hk
      .rename_i hr;cases hk
       split at h
       .rename_i qk;obtain rfl:=Agz hr hv;exact qY (r:=.ev i.op e v) hv (fun s hs=>.val hw hs) qk h
       .cases h
      .cases hk
    .split at h
     .rename_i qk;exact eff hs qk h
     .cases h
   .have qR:=Api qd ih hf
    have hs:Sg T pr i e σ v σ1:=by
     cases qR with
     | prim h1 _ h2 h3=>exact .prim hw hc h1 h2 h3
     | pure _ h2 h3=>exact .pure hw hc h2 h3
     | thr _ hT ht qc h4=>exact .thr hw hc hT ht qc h4
     | spec _ hT ht qc h4=>exact .spec hw hc hT ht qc h4
    have jf:Zf i.op=true:=by
     cases hop:i.op with
     | call=>rfl
     | callv=>rfl
     | _=>rw[hop]at hc;simp[B9]at hc
    unfold Ajx at h;rw[jf]at h;simp only[if_true,hc]at h;by_cases ql:Aee T pr f=true
    .rw[if_pos ql]at h
     have qH:σ1=after σ args v/\∃ vs,Dr σ args=some vs/\∀ s,Dr s args=some vs->after s args v=s->Sg T pr i e s v s:=by
      cases qR with
      | prim h1 _ h2 h3=>exact⟨rfl,_,h2,fun s ho ha=>by have:=Sg.prim (T:=T) hw hc h1 ho h3;rw[ha]at this;exact this⟩
      | pure _ h2 h3=>exact⟨rfl,_,h2,fun s ho ha=>by have:=Sg.pure hw hc ho h3;rw[ha]at this;exact this⟩
      | thr hq hT ht qc h4=>simp[Aee,hq,hT,ht]at ql
      | spec hq hT ht qc h4=>simp[Aee,hq,hT,ht]at ql
     obtain⟨jn,vs,qO,qi⟩:=qH;by_cases qq:(Ah args).isEmpty=true
     .rw[if_pos qq]at h;have hn:Ah args=[]:=by simpa using qq
      exact qu (fun s=>qi s ((Ab9 hn s).trans qO) (Ve hn v)) h
     .rw[if_neg qq]at h;by_cases qM:v.flatV=true
      .rw[if_pos qM]at h;rw[qO]at h;simp only[Xq]at h
       split at h
       .rename_i qk;exact qY (r:=.ov args vs) qO (fun s hs=>qi s hs (by unfold after;rw[if_pos qM])) qk h
       .cases h
      .rw[if_neg qM]at h;simp only at h
       split at h
       .rename_i qk;exact eff hs qk h
       .cases h
    .rw[if_neg ql]at h;simp only at h
     split at h
     .rename_i qk;exact eff hs qk h
     .cases h
  .rename_i hw;exact qu (fun s=>.off hw) h
  .cases h
include qd in
def Arr:∀ (n:Nat) (k:List It) (e:Env) (σ:St) (e':Env) (σ':St),k.all (La)=true->Mw T pr n k e σ=some (e',σ')->Ev T pr (.code k e σ e' σ')
 | 0,_,_,_,_,_,_,h=>by cases h
 | n+1,k,e,σ,e',σ',hk,h=>by
  have ih:=Arr n;simp only[Mw]at h;unfold Au5 at h
  split at h
  .cases h;exact .cNil
  .simp only[Aw,Af]at hk;exact .cEnd (ih _ _ _ _ _ hk.2 h)
  .simp only[Aw,Af]at hk;exact .cAgain (ih _ _ _ _ _ (by simp only[Aw,Af];exact⟨hk.1,hk⟩) h)
  .simp only[Aw,Af]at hk;obtain⟨hc,hk⟩:=hk
   split at h
   .exact .cSkip (ih _ _ _ _ _ hk h)
   .obtain⟨⟨e1,σ1⟩,hp,h⟩:=Ef.1 h;exact .cReg (Ah6 qd ih hp) (ih _ _ _ _ _ hk h)
   .rename_i kill qa ops;obtain⟨⟨e1,σ1⟩,hp,h⟩:=Ef.1 h;have qs:Ns qa ops=true:=hc;obtain⟨E2,h1,h2⟩:=Apg qs (Acs qd ih hp (fun _ _ _ h=>by cases h) (fun _ _ h=>by cases h));exact .cDrw E2 h1 h2 (ih _ _ _ _ _ hk h)
   .simp only[La,K9,Af]at hc;exact .cSeq (ih _ _ _ _ _ (by simp only[Aw,Af,La];exact⟨hc.1,hc.2,hk⟩) h)
   .obtain⟨z,hz,h⟩:=Ef.1 h;simp only[La,K9,Af]at hc;refine .cCond (z:=z) ?_ (ih _ _ _ _ _ (by simp only[Aw,Af,La];refine⟨?_,hk⟩;cases z;exact hc.2;exact hc.1) h);unfold Au4 at hz
    split at hz
    .rename_i hb;cases hz;exact hb
    .cases hz
   .exact .cBlk (ih _ _ _ _ _ (by simp only[Aw,Af,La];exact⟨hc,trivial,hk⟩) h)
   .exact .cLoop (ih _ _ _ _ _ (by simp only[Aw,Af,La];exact⟨hc,hk⟩) h)
   .obtain⟨k',hx,h⟩:=Ef.1 h;exact .cExit hx (ih _ _ _ _ _ (Abe hx hk) h)
   .cases h;exact .cRet
include qd in
def Pm{n f:Nat}{F:AF}(hT:T f=some F)(ht:F.thr=false)(qc:F.spec=none){vs:List V}{v:V}(h:((Jz (Mw T pr n) F vs []).bind fun p=>Ex p.2 p.1)=some v):Fn T pr f vs v:=by
 obtain⟨⟨v0,σ0⟩,hb,h⟩:=Ef.1 h;exact⟨F,hT,ht,qc,v0,σ0,Ahn (fun _ _ _ _ _ hk h=>Arr qd n _ _ _ _ _ hk h) hT qc (qd _ _ hT qc) hb,h⟩
end
variable {T:Nat->Option AF} {pr:Nat->Option (List V->Option V)}
abbrev Fs:=List (Nat × St × St)
abbrev Ls:=List (Nat × (St->Prop))
def WG(T:Nat->Option AF)(pr:Nat->Option (List V->Option V))(qa:List (List Nat))(n k:Nat)(l:List AI)(e:Env)(σ:St)(fs:Fs)(ls:Ls)(Q:Env->St->Prop):Prop:=∃ e' σ',TG T pr qa n k l e σ fs ls e' σ'/\Q e' σ'
def Xa(qa:List (List Nat))(n k:Nat)(R:St->Prop):Fs->Prop
 | []=>True
 | (j,s,s1)::r=>(Ey qa n k j=true\/(R s/\R s1))/\Xa qa n k R r
def O3(qa:List (List Nat))(n k:Nat):Fs->Prop
 | []=>True
 | (j,_,_)::r=>Ey qa n k j=true/\O3 qa n k r
def O4(qa:List (List Nat))(n k:Nat)(σ σ1:St):Ls->Prop
 | []=>True
 | (j,R)::r=>(Ey qa n k j=true\/(R σ/\R σ1))/\O4 qa n k σ σ1 r
def Ah7{qa:List (List Nat)}{n k:Nat}{R:St->Prop}:∀ {fs:Fs},Xa qa n k R fs->∀ j s s1,(j,s,s1)∈fs->Ey qa n k j=true\/(R s1↔R s)
 | [],_,_,_,_,h=>by cases h
 | _::_,h,j,s,s1,hm=>by
  rcases Bj.1 hm with rfl | hm
  .exact h.1.imp id fun h=>⟨fun _=>h.1,fun _=>h.2⟩
  .exact Ah7 h.2 j s s1 hm
def Ars{qa:List (List Nat)}{n k:Nat}:∀ {fs:Fs},O3 qa n k fs->∀ j s s1,(j,s,s1)∈fs->Ey qa n k j=true
 | [],_,_,_,_,h=>by cases h
 | _::_,h,j,s,s1,hm=>by
  rcases Bj.1 hm with rfl | hm
  .exact h.1
  .exact Ars h.2 j s s1 hm
def Art{qa:List (List Nat)}{n k:Nat}{σ σ1:St}:∀ {ls:Ls},O4 qa n k σ σ1 ls->∀ j R,(j,R)∈ls->Ey qa n k j=true\/(R σ1↔R σ)
 | [],_,_,_,h=>by cases h
 | _::_,h,j,R,hm=>by
  rcases Bj.1 hm with rfl | hm
  .exact h.1.imp id fun h=>⟨fun _=>h.1,fun _=>h.2⟩
  .exact Art h.2 j R hm
section
variable {Q:Env->St->Prop} {e:Env} {σ:St} {k:List It}
def A9v{kill:List Nat}{qa:List (List Nat)}{ops:List AI}(qd:Ns qa ops=true)(h:∀ K:Env->St->Prop,(∀ e1 σ1,W T pr k (e1.del kill) σ1 Q->K e1 σ1)->WG T pr qa ops.length 0 ops e σ [] [] K):W T pr (.c (.drw kill qa ops)::k) e σ Q:=by
 obtain⟨e1,σ1,hT,e',σ',h2,q⟩:=h _ fun _ _ h=>h
 obtain⟨E2,g1,g2⟩:=Apg qd hT;exact⟨e',σ',.cDrw E2 g1 g2 h2,q⟩
variable {qa:List (List Nat)} {n m:Nat} {l:List AI} {fs:Fs} {ls:Ls}
def A9w(q:Q e σ):WG T pr qa n m [] e σ fs ls Q:=⟨e,σ,.nil,q⟩
def Adg{i:AI}{v:V}(hs:∀ s,Sg T pr i e s v s)(h:WG T pr qa n (m+1) l (e.putO i.dst v) σ fs ls Q):WG T pr qa n m (i::l) e σ fs ls Q:=by
 obtain⟨e',σ',h,q⟩:=h;refine⟨e',σ',.read (fun _=>True) trivial (fun s _=>hs s) (fun _ _ _ _=>.inr Iff.rfl) ?_,q⟩
 have more:∀ {k:Nat} {l:List AI} {e e':Env} {σ σ':St} {fs:Fs} {ls:Ls},TG T pr qa n k l e σ fs ls e' σ'->∀ qn,(∀ j R,(j,R)∈qn->(∀ s,R s)\/(j,R)∈ls)->TG T pr qa n k l e σ fs qn e' σ':=by
  intro k l e e' σ σ' fs ls h
  induction h with
  | nil=>exact fun _ _=>.nil
  | read R h1 h2 h3 _ ih=>
   exact fun qn hl=>.read R h1 h2 h3 (ih _ fun j R' hm=>by
    rcases Bj.1 hm with hm | hm
    .exact .inr (by rw[hm];exact C5)
    .exact(hl j R' hm).imp id fun h=>C4 _ h)
  | eff h1 h2 h3 _ ih=>
   exact fun qn hl=>.eff h1 h2 (fun j R hm=>by
    rcases hl j R hm with h | h
    .exact .inr ⟨fun _=>h _,fun _=>h _⟩
    .exact h3 j R h) (ih _ hl)
 exact more h _ fun j R hm=>by
  rcases Bj.1 hm with hm | hm
  .cases hm;exact .inl fun _=>trivial
  .exact .inr hm
def A9x{i:AI}{v:V}(hg:Cx e i=some true)(hv:∀ s,Ae i.op e s=some (v,s))(h:WG T pr qa n (m+1) l (e.putO i.dst v) σ fs ls Q):WG T pr qa n m (i::l) e σ fs ls Q:=Adg (fun s=>.val hg (hv s)) h
def Bd6{i:AI}{v:V}(hg:Cx e i=some true)(hv:Ae i.op e σ=some (v,σ))(hc:Xa qa n m (fun s=>Ae i.op e s=some (v,s)) fs)(h:WG T pr qa n (m+1) l (e.putO i.dst v) σ fs ((m,fun s=>Ae i.op e s=some (v,s))::ls) Q):WG T pr qa n m (i::l) e σ fs ls Q:=by
 obtain⟨e',σ',h,q⟩:=h;exact⟨e',σ',.read (fun s=>Ae i.op e s=some (v,s)) hv (fun s hs=>.val hg hs) (Ah7 hc) h,q⟩
def Atg{i:AI}{v:V}{σ1:St}(hs:Sg T pr i e σ v σ1)(h1:O3 qa n m fs)(h2:O4 qa n m σ σ1 ls)(h:WG T pr qa n (m+1) l (e.putO i.dst v) σ1 ((m,σ,σ1)::fs) ls Q):WG T pr qa n m (i::l) e σ fs ls Q:=by
 obtain⟨e',σ',h,q⟩:=h;exact⟨e',σ',.eff hs (Ars h1) (Art h2) h,q⟩
def A9y{i:AI}{v:V}{σ1:St}(hg:Cx e i=some true)(hv:Ae i.op e σ=some (v,σ1))(h1:O3 qa n m fs)(h2:O4 qa n m σ σ1 ls)(h:WG T pr qa n (m+1) l (e.putO i.dst v) σ1 ((m,σ,σ1)::fs) ls Q):WG T pr qa n m (i::l) e σ fs ls Q:=Atg (.val hg hv) h1 h2 h
end
section
variable {Q:Env->St->Prop} {e:Env} {σ:St} {k:List It} {l:List AI}
end
def As{Q:Env->St->Prop}{e e':Env}{σ:St}{k:List It}{keep:List Nat}{c:AC}(h:W T pr (.l keep c::k) e' σ Q)(hk:e.keep keep=e'.keep keep):W T pr (.l keep c::k) e σ Q:=by
 obtain⟨e1,σ1,h,q⟩:=h
 cases h with
 | cAgain h=>exact⟨e1,σ1,.cAgain (hk ▸ h),q⟩
def A9z(k:IntKind)(n:Int):V.cellB (.int k n)=true:=rfl
def A90(k:IntKind)(n:Int):V.rowB (.int k n)=true:=rfl
def A91(l:List UInt8):V.cellB (.str l)=true:=rfl
def A92(l:List UInt8):V.rowB (.str l)=true:=rfl
def A5z(b:Bool):V.cellB (.bool b)=true:=rfl
def A50(b:Bool):V.rowB (.bool b)=true:=rfl
def A51:V.cellB V.nils=true:=rfl
def A52:V.rowB V.nils=true:=rfl
def A53:V.cellB V.nili=true:=rfl
def A54:V.rowB V.nili=true:=rfl
def A93(t:Nat)(xs:List (List V)):V.cellB (.lst t xs)=true:=rfl
def A94(t:Nat)(xs:List (List V)):V.rowB (.lst t xs)=true:=rfl
def A95(i g o:Nat):V.cellB (.ptr i g o)=true:=rfl
def A96(i g o:Nat):V.rowB (.ptr i g o)=false:=rfl
def Bd7(i g o l m:Nat)(w:Bool):V.cellB (.sl i g o l m w)=true:=rfl
def Bd8(i g o l m:Nat)(w:Bool):V.rowB (.sl i g o l m w)=false:=rfl
def A55:V.cellB V.nilp=true:=rfl
def A56:V.rowB V.nilp=false:=rfl
def A57:V.cellB V.nilf=true:=rfl
def A58:V.rowB V.nilf=false:=rfl
def A97:V.cellB V.ifc=true:=rfl
def A98:V.rowB V.ifc=false:=rfl
def A99(r:List V)(o:Nat):V.cellB (.imm r o)=true:=rfl
def Baa(r:List V)(o:Nat):V.rowB (.imm r o)=false:=rfl
def Bd9(f:Nat)(a c:List V):V.cellB (.fn f a c)=true:=rfl
def Bea(f:Nat)(a c:List V):V.rowB (.fn f a c)=false:=rfl
def Beb(i:Nat):V.cellB (.mp i)=true:=rfl
def Bec(i:Nat):V.rowB (.mp i)=false:=rfl
