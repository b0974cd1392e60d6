/- THE PLAIN MACHINE, joined texts: Oa Ob Oc Od Oe. -/
import Derived.Test.YtphikjgngompaabGreatDoorA3
import Derived.IntWalk
set_option linter.all false
/- Regions that draw their order, in general: reads float as long as what they read stays, effects keep their order. -/
namespace Go.Proofs.YtphikjgngompaabGreatDoor.KM
open Go
variable {T:Nat->Option AF} {pr:Nat->Option (List V->Option V)}
inductive Sg (T:Nat->Option AF) (pr:Nat->Option (List V->Option V)):AI->Env->St->V->St->Prop
 | off {i:AI} {e:Env} {σ:St}:Cw e i=some false->Sg T pr i e σ .skp σ
 | val {i:AI} {e:Env} {σ σ1:St} {v:V}:Cw e i=some true->Ad i.op e σ=some (v,σ1)->Sg T pr i e σ v σ1
 | prim {i:AI} {f:Nat} {args:List V} {e:Env} {σ:St} {s:List V->Option V} {vs:List V} {v:V}:Cw e i=some true->Ck e i.op=some (f,args)->pr f=some s ->
   Dm σ args=some vs->s vs=some v->Sg T pr i e σ v (after σ args v)
 | pure {i:AI} {f:Nat} {args:List V} {e:Env} {σ:St} {vs:List V} {v:V}:Cw e i=some true->Ck e i.op=some (f,args) ->
   Dm σ args=some vs->Fn T pr f vs v->Sg T pr i e σ v (after σ args v)
 | own {i:AI} {f:Nat} {args:List V} {e:Env} {σ σ0:St} {F:AF} {vs:List V} {v:V}:Cw e i=some true->Ck e i.op=some (f,args)->T f=some F->F.thr=false->F.spec=none ->
   Dm σ args=some vs->Ev T pr (.fn f vs [] v σ0)->Sg T pr i e σ (v.ren (·+σ.length)) (own σ args σ0)
 | any {i:AI} {f:Nat} {args:List V} {e:Env} {σ σ1:St} {F:AF} {v:V}:Cw e i=some true->Ck e i.op=some (f,args)->T f=some F->F.spec=none ->
   Ev T pr (.fn f args σ v σ1)->Sg T pr i e σ v σ1
 | thr {i:AI} {f:Nat} {args:List V} {e:Env} {σ σ1:St} {F:AF} {v:V}:Cw e i=some true->Ck e i.op=some (f,args)->T f=some F->F.thr=true->F.spec=none ->
   Ev T pr (.fn f args σ v σ1)->Sg T pr i e σ v σ1
 | spec {i:AI} {f:Nat} {args:List V} {e:Env} {σ σ1:St} {F:AF} {s:List V->St->Option (V × St)} {v:V}:Cw e i=some true->Ck e i.op=some (f,args)->T f=some F->F.thr=true->F.spec=some s ->
   s args σ=some (v,σ1)->Sg T pr i e σ v σ1
def Sg.ev{i:AI}{l:List AI}{e e':Env}{σ σ1 σ':St}{v:V}(h:Sg T pr i e σ v σ1)(g:Ev T pr (.ops l (e.putO i.dst v) σ1 e' σ')):Ev T pr (.ops (i::l) e σ e' σ'):=by
 cases h with
 | off h=>exact .opsSkip h g
 | val h hv=>exact .opsVal h hv g
 | prim h hc hp hx hs=>exact .opsPrim h hc hp hx hs g
 | pure h hc hx hf=>
  obtain⟨F,h1,h2,h3,v0,σ0,h4,h5⟩:=hf;exact .opsPure h hc h1 h2 h3 hx h4 h5 g
 | own h hc h1 h2 h3 hx h4=>exact .opsOwn h hc h1 h2 h3 hx h4 g
 | any h hc h1 h3 h4=>exact .opsAny h hc h1 h3 h4 g
 | thr h hc h1 h2 h3 h4=>exact .opsThr h hc h1 h2 h3 h4 g
 | spec h hc h1 h2 h3 h4=>exact .opsSpec h hc h1 h2 h3 h4 g
def A5c{e e':Env}{op:AO}(h:Agree e e' op.rd):Ck e op=Ck e' op:=by
 cases op with
 | call f xs=>simp only[Ck];rw[U3 h]
 | callv x xs=>exact Adj h
 | _=>rfl
def Sg.move{i:AI}{e e':Env}{σ σ1:St}{v:V}(h:Sg T pr i e σ v σ1)(ha:Agree e e' i.rd):Sg T pr i e' σ v σ1:=by
 have hw:=Apq ha;have qo:=A5c (op:=i.op) ha.l
 cases h with
 | off h=>exact .off (hw ▸ h)
 | val h hv=>exact .val (hw ▸ h) (Arg (op:=i.op) ha.l σ ▸ hv)
 | prim h hc hp hx hs=>exact .prim (hw ▸ h) (qo ▸ hc) hp hx hs
 | pure h hc hx hf=>exact .pure (hw ▸ h) (qo ▸ hc) hx hf
 | own h hc h1 h2 h3 hx h4=>exact .own (hw ▸ h) (qo ▸ hc) h1 h2 h3 hx h4
 | any h hc h1 h3 h4=>exact .any (hw ▸ h) (qo ▸ hc) h1 h3 h4
 | thr h hc h1 h2 h3 h4=>exact .thr (hw ▸ h) (qo ▸ hc) h1 h2 h3 h4
 | spec h hc h1 h2 h3 h4=>exact .spec (hw ▸ h) (qo ▸ hc) h1 h2 h3 h4
def N7(x y:AI):Bool:=
 (match x.dst with
  | some d=>!y.rd.elem d&&!(y.dst==some d)
  | none=>true)&&(match y.dst with
  | some d=>!x.rd.elem d
  | none=>true)
def Ph(qa:List (List Nat))(ops:List AI):Bool:=
 qa.length==ops.length&&(List.range ops.length).all fun j=>((qa.getD j []).all fun d=>decide (d<j))&&(List.range j).all fun i=>Ew qa ops.length j i||(match ops[i]?,ops[j]? with
  | some x,some y=>N7 x y
  | _,_=>false)
inductive TG (T:Nat->Option AF) (pr:Nat->Option (List V->Option V)) (qa:List (List Nat)) (n:Nat):Nat->List AI->Env->St->List (Nat × St × St)->List (Nat × (St->Prop))->Env->St->Prop
 | nil {k:Nat} {e:Env} {σ:St} {fs:List (Nat × St × St)} {ls:List (Nat × (St->Prop))}:TG T pr qa n k [] e σ fs ls e σ
 | read {k:Nat} {i:AI} {l:List AI} {e e':Env} {σ σ':St} {v:V} {fs:List (Nat × St × St)} {ls:List (Nat × (St->Prop))} (R:St->Prop):R σ->(∀ s,R s->Sg T pr i e s v s)->(∀ j s s1,(j,s,s1)∈fs->Ew qa n k j=true\/(R s1↔R s)) ->
   TG T pr qa n (k+1) l (e.putO i.dst v) σ fs ((k,R)::ls) e' σ'->TG T pr qa n k (i::l) e σ fs ls e' σ'
 | eff {k:Nat} {i:AI} {l:List AI} {e e':Env} {σ σ1 σ':St} {v:V} {fs:List (Nat × St × St)} {ls:List (Nat × (St->Prop))}:Sg T pr i e σ v σ1->(∀ j s s1,(j,s,s1)∈fs->Ew qa n k j=true)->(∀ j R,(j,R)∈ls->Ew qa n k j=true\/(R σ1↔R σ)) ->
   TG T pr qa n (k+1) l (e.putO i.dst v) σ1 ((k,σ,σ1)::fs) ls e' σ'->TG T pr qa n k (i::l) e σ fs ls e' σ'
def Ayc(T:Nat->Option AF)(pr:Nat->Option (List V->Option V))(i:AI)(e:Env)(s s1:St)(v:V):Option (St->Prop)->Prop
 | some R=>s1=s/\R s/\∀ s',R s'->Sg T pr i e s' v s'
 | none=>Sg T pr i e s v s1
structure Sr (T:Nat->Option AF) (pr:Nat->Option (List V->Option V)) (qa:List (List Nat)) (n k:Nat) (l:List AI) (e:Env) (σ:St) (fs:List (Nat × St × St)) (ls:List (Nat × (St->Prop))) (e':Env) (σ':St) (qf:Nat->Env) (st:Nat->St) (val:Nat->V) (ro:Nat->Option (St->Prop)):Prop where
 e0:qf k=e
 s0:st k=σ
 e1:qf (k+l.length)=e'
 s1:st (k+l.length)=σ'
 stp:∀ j i,l[j]?=some i->qf (k+j+1)=(qf (k+j)).putO i.dst (val (k+j))/\Ayc T pr i (qf (k+j)) (st (k+j)) (st (k+j+1)) (val (k+j)) (ro (k+j))
 d0:∀ a b,a<b->b<l.length->ro (k+a)=none->ro (k+b)=none->Ew qa n (k+b) (k+a)=true
 d4:∀ b j s s1,b<l.length->ro (k+b)=none->(j,s,s1)∈fs->Ew qa n (k+b) j=true
 d1:∀ a b R,a<l.length->b<l.length->ro (k+a)=some R->ro (k+b)=none->Ew qa n (k+a) (k+b)=true\/Ew qa n (k+b) (k+a)=true\/(R (st (k+b+1))↔R (st (k+b)))
 d2:∀ a R j s s1,a<l.length->ro (k+a)=some R->(j,s,s1)∈fs->Ew qa n (k+a) j=true\/(R s1↔R s)
 d3:∀ b j R,b<l.length->ro (k+b)=none->(j,R)∈ls->Ew qa n (k+b) j=true\/(R (st (k+b+1))↔R (st (k+b)))
def La{α:Type}(k:Nat)(x:α)(f:Nat->α):Nat->α:=fun m=>if m=k then x else f m
theorem Jt{α:Type}{k:Nat}{x:α}{f:Nat->α}:La k x f (k+0)=x:=if_pos rfl
def Ag2{α:Type}{k:Nat}{x:α}{f:Nat->α}:La k x f k=x:=if_pos rfl
def E3{α:Type}{k j:Nat}{x:α}{f:Nat->α}:La k x f (k+(j+1))=f (k+1+j):=by
 unfold La
 grind
def Rp{α:Type}{k j:Nat}{x:α}{f:Nat->α}:La k x f (k+(j+1)+1)=f (k+1+j+1):=by
 unfold La
 grind
def Yj{α:Type}{k:Nat}{x:α}{f:Nat->α}:La k x f (k+0+1)=f (k+1):=by
 simp[La]
def Ju(k j:Nat):k+(j+1)=k+1+j:=by omega
def TG.sr{qa:List (List Nat)}{n k:Nat}{l:List AI}{e e':Env}{σ σ':St}{fs:List (Nat × St × St)}{ls:List (Nat × (St->Prop))}(h:TG T pr qa n k l e σ fs ls e' σ'):∃ qf st val ro,Sr T pr qa n k l e σ fs ls e' σ' qf st val ro:=by
 induction h with
 | @nil k e σ fs ls=>
  exact⟨fun _=>e,fun _=>σ,fun _=>.und,fun _=>none,⟨rfl,rfl,rfl,rfl,fun j i h=>by simp at h,fun a b _ h=>by simp at h,fun b j s s1 h=>by simp at h,fun a b R h=>by simp at h,fun a R j s s1 h=>by simp at h,fun b j R h=>by simp at h⟩⟩
 | @read k i l e e' σ σ' v fs ls R hR hs hchk _ ih=>
  obtain⟨qf,st,val,ro,q⟩:=ih;refine⟨La k e qf,La k σ st,La k v val,La k (some R) ro,⟨Ag2,Ag2,?_,?_,fun j x hx=>?_,fun a b qT hb h1 h2=>?_,fun b j s s1 hb h1 qh=>?_,fun a b R' ha hb h1 h2=>?_,fun a R' j s s1 ha h1 qh=>?_,fun b j R' hb h1 qh=>?_⟩⟩
  .rw[An,E3];exact q.e1
  .rw[An,E3];exact q.s1
  .cases j with
   | zero=>
    simp at hx;subst hx;rw[Jt,Jt,Jt,Jt,Yj,Yj,q.e0,q.s0];exact⟨rfl,rfl,hR,hs⟩
   | succ j=>
    rw[E3,E3,E3,E3,Rp,Rp];exact q.stp j x (by grind)
  .cases a with
   | zero=>grind[Jt]
   | succ a=>
    cases b with
    | zero=>omega
    | succ b=>
     rw[E3]at h1 h2;rw[Ju k a,Ju k b];exact q.d0 a b AA (by grind) h1 h2
  .cases b with
   | zero=>grind[Jt]
   | succ b=>
    rw[E3]at h1;rw[Ju];exact q.d4 b j s s1 (by grind) h1 qh
  .cases b with
   | zero=>grind[Jt]
   | succ b=>
    rw[E3]at h2
    cases a with
    | zero=>
     rw[Jt]at h1;cases h1;have:=q.d3 b k R (by grind) h2 AE;rw[Rp,E3,Ju,Nt]
     grind
    | succ a=>
     rw[E3]at h1;rw[Rp,E3,Ju k a,Ju k b];exact q.d1 a b R' (by grind) (by grind) h1 h2
  .cases a with
   | zero=>
    grind[Jt]
   | succ a=>
    rw[E3]at h1;rw[Ju];exact q.d2 a R' j s s1 (by grind) h1 qh
  .cases b with
   | zero=>grind[Jt]
   | succ b=>
    rw[E3]at h1;rw[Rp,E3,Ju];exact q.d3 b j R' (by grind) h1 (Cb _ qh)
 | @eff k i l e e' σ σ1 σ' v fs ls hs hbef hchk _ ih=>
  obtain⟨qf,st,val,ro,q⟩:=ih;refine⟨La k e qf,La k σ st,La k v val,La k none ro,⟨Ag2,Ag2,?_,?_,fun j x hx=>?_,fun a b qT hb h1 h2=>?_,fun b j s s1 hb h1 qh=>?_,fun a b R' ha hb h1 h2=>?_,fun a R' j s s1 ha h1 qh=>?_,fun b j R' hb h1 qh=>?_⟩⟩
  .rw[An,E3];exact q.e1
  .rw[An,E3];exact q.s1
  .cases j with
   | zero=>
    simp at hx;subst hx;rw[Jt,Jt,Jt,Jt,Yj,Yj,q.e0,q.s0];exact⟨rfl,hs⟩
   | succ j=>
    rw[E3,E3,E3,E3,Rp,Rp];exact q.stp j x (by grind)
  .cases b with
   | zero=>omega
   | succ b=>
    rw[E3]at h2
    cases a with
    | zero=>
     rw[Ju,Nt];exact q.d4 b k σ σ1 (by grind) h2 AE
    | succ a=>
     rw[E3]at h1;rw[Ju k a,Ju k b];exact q.d0 a b AA (by grind) h1 h2
  .cases b with
   | zero=>grind
   | succ b=>
    rw[E3]at h1;rw[Ju];exact q.d4 b j s s1 (by grind) h1 (Cb _ qh)
  .cases a with
   | zero=>grind[Jt]
   | succ a=>
    rw[E3]at h1
    cases b with
    | zero=>
     have:=q.d2 a R' k σ σ1 (by grind) h1 AE;rw[Yj,Jt,q.s0,Ju,Nt]
     grind
    | succ b=>
     rw[E3]at h2;rw[Rp,E3,Ju k a,Ju k b];exact q.d1 a b R' (by grind) (by grind) h1 h2
  .cases a with
   | zero=>grind
   | succ a=>
    rw[E3]at h1;rw[Ju];exact q.d2 a R' j s s1 (by grind) h1 (Cb _ qh)
  .cases b with
   | zero=>
    rw[Yj,Jt,q.s0]
    grind
   | succ b=>
    rw[E3]at h1;rw[Rp,E3,Ju];exact q.d3 b j R' (by grind) h1 qh
variable {T:Nat->Option AF} {pr:Nat->Option (List V->Option V)}
section
variable {qa:List (List Nat)} {ops:List AI} {e e1:Env} {σ σ1:St} {qf:Nat->Env} {st:Nat->St} {val:Nat->V} {ro:Nat->Option (St->Prop)}
structure StaP (qa:List (List Nat)) (ops:List AI):Prop where
 len:qa.length=ops.length
 dep:∀ j,j<ops.length->∀ d∈qa.getD j [],d<j
 pair:∀ i j x y,i<j->ops[i]?=some x->ops[j]?=some y->Ew qa ops.length j i=true\/N7 x y=true
def Av3(h:Ph qa ops=true):StaP qa ops:=by
 unfold Ph at h;simp only[Ai,beq_iff_eq,Bu,Eg,decide_eq_true_eq,Ov]at h;refine⟨h.1,fun j hj d hd=>(h.2 j hj).1 d hd,fun i j x y qw hx hy=>?_⟩
 grind
def Ayd{qa:List (List Nat)}{N:Nat}(qU:∀ j,j<N->∀ d∈qa.getD j [],d<j):∀ f j c,j<N->Ew qa f j c=true->c<j:=by
 intro f
 induction f with
 | zero=>grind[Ew]
 | succ f ih=>
  intro j c hj h;simp only[Ew,Ns,Ov,beq_iff_eq]at h
  grind
def Zw(q:Sr T pr qa ops.length 0 ops e σ [] [] e1 σ1 qf st val ro):∀ i,i<=ops.length->EnvOK ops val e (fun j=>j<i) (qf i)
 | 0,_=>fun t=>.inr ⟨fun j hj=>by omega,by rw[q.e0]⟩
 | i+1,hi=>by
  have ih:=Zw q i AA;obtain⟨x,hx⟩:∃ x,ops[i]?=some x:=⟨ops[i],B9 AA⟩;have hs:=(q.stp i x hx).1;simp only[Gf]at hs;rw[hs];exact(ih.put hx (fun j t hj _ _=>hj)).iff (fun j=>by omega)
def Yy(ops:List AI)(ro:Nat->Option (St->Prop))(j:Nat):Prop:=j<ops.length/\ro j=none
def O2(q:Sr T pr qa ops.length 0 ops e σ [] [] e1 σ1 qf st val ro){α:Sort _}(f:St->α):∀ (d a:Nat),a+d<=ops.length->(∀ k,a<=k->k<a+d->Yy ops ro k->f (st (k+1))=f (st k))->f (st (a+d))=f (st a)
 | 0,a,_,_=>rfl
 | d+1,a,hle,h=>by
  have ih:=O2 q f d a AA (fun k h1 h2=>h k h1 AA);rw[<-ih];obtain⟨x,hx⟩:∃ x,ops[a+d]?=some x:=⟨ops[a+d],B9 AA⟩
  cases hc:ro (a+d) with
  | none=>exact h (a+d) AA AA ⟨by omega,hc⟩
  | some R=>
   have:=(q.stp (a+d) x hx).2;simp only[Gf,hc,Ayc]at this
   grind
def Y3(ops:List AI)(ro:Nat->Option (St->Prop))(st:Nat->St)(qb:List Nat)(S':St):Prop:=
 ∃ m,m<=ops.length/\S'=st m/\∀ j,Yy ops ro j->(j<m↔j∈qb)
def As4(qd:StaP qa ops)(q:Sr T pr qa ops.length 0 ops e σ [] [] e1 σ1 qf st val ro):∀ (fuel t:Nat) (qb:List Nat) (E:Env) (S':St),qb.length+fuel=ops.length->qb.Nodup->(∀ i∈qb,i<ops.length)->DC qa qb ->
  EnvOK ops val e (·∈qb) E->Y3 ops ro st qb S'->∃ E',Ev T pr (.ops (D2 ops (Pc qa fuel t qb)) E S' E' σ1)/\∀ m,E'.get m=e1.get m
 | 0,t,qb,E,S',hl,hn,hlt,hdc,hE,⟨m,hm,hS,heff⟩=>by
  have qi:∀ j,j<ops.length->j∈qb:=fun j hj=>Ayb hn hlt AA hj
  refine⟨E,?_,fun k=>?_⟩
  .have jg:S'=σ1:=by
    rw[hS,<-q.s1,Gf];obtain⟨d,hd⟩:∃ d,m+d=ops.length:=⟨ops.length - m,by omega⟩;rw[<-hd];refine(O2 q id d m AA (fun k h1 h2 he=>?_)).symm;have:=(heff k he).2 (qi k AA);omega
   rw[jg];exact .opsNil
  .have ht:=Zw q ops.length (Aj _);have qK:=q.e1;rw[Gf]at qK;rw[<-qK];exact hE.same ht (fun j hj=>⟨fun h=>hlt j h,fun h=>qi j h⟩)
 | fuel+1,t,qb,E,S',hl,hn,hlt,hdc,hE,⟨m,hm,hS,heff⟩=>by
  have qv:∃ j,j<ops.length/\j ∉ qb/\∀ d∈qa.getD j [],d∈qb:=by
   have qW:∃ j,j<ops.length/\j ∉ qb:=by
    rcases Classical.em (∃ j,j<ops.length/\j ∉ qb) with h | h
    .exact h
    .exfalso;have qF:∀ j,j<ops.length->j∈qb:=fun j hj=>Classical.byContradiction fun hc=>h ⟨j,hj,hc⟩
     have h1:=Adw ops.length qb qF;omega
   have:∀ k,∀ j,j<=k->j<ops.length->j ∉ qb->∃ j,j<ops.length/\j ∉ qb/\∀ d∈qa.getD j [],d∈qb:=by
    intro k
    induction k with
    | zero=>
     intro j hj h1 h2;obtain rfl:j=0:=by omega
     exact⟨0,h1,h2,fun d hd=>absurd (qd.dep 0 h1 d hd) AA⟩
    | succ k ih=>
     intro j hj h1 h2;by_cases qi:∀ d∈qa.getD j [],d∈qb
     .grind
     .obtain⟨d,hd,qI⟩:∃ d,d∈qa.getD j []/\d ∉ qb:=Classical.byContradiction fun hc=>qi fun d hd=>Classical.byContradiction fun qI=>hc ⟨d,hd,qI⟩
      have:=qd.dep j h1 d hd
      grind
   obtain⟨j,h1,h2⟩:=qW;exact this j j (Aj _) h1 h2
  unfold Pc;generalize qO:(List.range qa.length).filter (Nc qa qb)=rs
  have qu:0<rs.length:=by
   obtain⟨j,h1,h2,h3⟩:=qv
   have:j∈rs:=by
    rw[<-qO,U0];refine⟨by rw[Eg,qd.len];exact h1,?_⟩;simp only[Nc,Ai,Q7,Bu];refine⟨?_,fun d hd=>Zk.2 (h3 d hd)⟩
    cases hel:qb.elem j with
    | false=>rfl
    | true=>grind
   exact List.length_pos_of_mem this
  have qq:rs[t % rs.length]?=some (rs[t % rs.length]'(O0 _ qu)):=B9 _;generalize rs[t % rs.length]'(O0 _ qu)=i at qq;rw[qq];have qh:i∈rs:=F7 qq;rw[<-qO,U0]at qh;obtain⟨qM,ql⟩:=qh;have hi:i<ops.length:=by rw[Eg,qd.len]at qM;exact qM
  simp only[Nc,Ai,Q7,Bu]at ql;have qY:i ∉ qb:=fun h=>by grind
  have qJ:∀ d∈qa.getD i [],d∈qb:=fun d hd=>Zk.1 (ql.2 d hd)
  obtain⟨x,hx⟩:∃ x,ops[i]?=some x:=⟨ops[i],B9 hi⟩
  have qP:∀ j y,i<j->ops[j]?=some y->j∈qb->N7 x y=true:=fun j y qw hy hj=>by
   rcases qd.pair i j x y qw hx hy with h | h
   .grind[S6]
   omega
  have qV:∀ j y,j<i->ops[j]?=some y->j ∉ qb->N7 y x=true:=fun j y qw hy hj=>by
   rcases qd.pair j i y x qw hy hx with h | h
   .grind[Ad5]
   omega
  have qg:∀ {j t:Nat},Pf ops j=some t->∃ y,ops[j]?=some y/\y.dst=some t:=fun {j t} h=>by
   unfold Pf at h
   grind
  have qk:Agree (qf i) E x.rd:=fun t ht=>by
   refine(Zw q i AA).same hE (fun j hj=>?_);obtain⟨y,hy,ji⟩:=qg hj;constructor
   .intro qD;rcases Classical.em (j∈qb) with h | h
    .exact h
    .have:=qV j y qD hy h
     simp_all [N7]
   .intro ja;rcases Zf j i with h | h | h
    .exact h
    .grind
    .have:=qP j y h hy ja
     simp_all [N7]
  obtain⟨qA,qe⟩:=q.stp i x hx;simp only[Gf]at qA qe
  have qR:EnvOK ops val e (·∈i::qb) (E.putO x.dst (val i)):=(hE.put hx (fun j t hj jl jb=>by
   obtain⟨y,hy,ji⟩:=qg jb;rcases Zf j i with h | h | h
   .exact h
   .grind
   .have:=qP j y h hy hj
    simp_all [N7])).iff (fun j=>by grind)
  have qz:DC qa (i::qb):=fun j hj d hd=>by
   rcases Bp.1 hj with rfl | hj
   .grind
   .exact Cb _ (hdc j hj d hd)
  have next:∀ S2,Y3 ops ro st (i::qb) S2->Sg T pr x E S' (val i) S2->∃ E',Ev T pr (.ops (D2 ops (i::Pc qa fuel (t / rs.length) (i::qb))) E S' E' σ1)/\∀ m,E'.get m=e1.get m:=fun S2 qx jh=>by
   obtain⟨E',h1,h2⟩:=As4 qd q fuel (t / rs.length) (i::qb) _ S2 (by grind) (Zh.2 ⟨qY,hn⟩) (fun j hj=>by
    grind) qz qR qx
   refine⟨E',?_,h2⟩
   have:D2 ops (i::Pc qa fuel (t / rs.length) (i::qb))=x::D2 ops (Pc qa fuel (t / rs.length) (i::qb)):=by
    unfold D2;rw[Nq,hx]
   rw[this];exact jh.ev h1
  have hb:=Ayd qd.dep
  cases hro:ro i with
  | none=>
   rw[hro]at qe;have qe:Sg T pr x (qf i) (st i) (val i) (st (i+1)):=qe
   have qL:∀ k,Yy ops ro k->(k∈qb↔k<i):=fun k ⟨qB,jc⟩=>by
    constructor
    .intro hk;rcases Zf k i with h | h | h
     .exact h
     .grind
     .have:=q.d0 i k h qB (by grind) (by grind);simp only[Gf]at this
      grind[S6]
    .intro hk;have:=q.d0 k i hk hi (by grind) (by grind);simp only[Gf]at this
     grind[Ad5]
   have qS:S'=st i:=by
    rw[hS];rcases Aiz m i with qr | qr
    .obtain⟨d,rfl⟩:=Uw qr
     exact(O2 q id d m AA (fun k a1 a2 he=>by
      grind)).symm
    .obtain⟨d,rfl⟩:=Uw qr
     exact O2 q id d i AA (fun k a1 a2 he=>by
      grind)
   rw[qS]at next ⊢
   refine next (st (i+1)) ⟨i+1,by omega,rfl,fun k he=>?_⟩ (qe.move qk)
   grind
  | some R=>
   rw[hro]at qe;obtain⟨jj,jk,jd⟩:st (i+1)=st i/\R (st i)/\∀ s',R s'->Sg T pr x (qf i) s' (val i) s':=qe
   have qx:Y3 ops ro st (i::qb) S':=⟨m,hm,hS,fun k he=>by
    rw[heff k he,Bp];constructor
    .grind
    .rintro(rfl | h)
     .rw[he.2]at hro;cases hro
     omega⟩
   refine next S' qx ((jd S' ?_).move qk)
   have qE:∀ k,Yy ops ro k->(k∈qb/\i<k\/k ∉ qb/\k<i)->R (st (k+1))=R (st k):=fun k ⟨qB,jc⟩ hk=>by
    have hd:=q.d1 i k R hi qB (by grind) (by grind);simp only[Gf]at hd
    grind[S6]
   rw[hS];rcases Aiz m i with qr | qr
   .obtain⟨d,rfl⟩:=Uw qr
    have:=O2 q R d m AA (fun k a1 a2 he=>qE k he (.inr ⟨fun je=>by
     grind,a2⟩))
    grind
   .obtain⟨d,rfl⟩:=Uw qr
    have:=O2 q R d i AA (fun k a1 a2 he=>by
     have je:=(heff k he).1 a2;rcases Nat.eq_or_lt_of_le a1 with rfl | h
     .grind
     grind)
    grind
def As5(qd:Ph qa ops=true)(h:TG T pr qa ops.length 0 ops e σ [] [] e1 σ1):∃ E2:Nat->Env,(∀ t,Ev T pr (.ops (D2 ops (Q0 qa t)) e σ (E2 t) σ1))/\∀ t n,(E2 t).get n=e1.get n:=by
 obtain⟨qf,st,val,ro,q⟩:=h.sr;have S:=Av3 qd
 have qG:∀ t,∃ E',Ev T pr (.ops (D2 ops (Q0 qa t)) e σ E' σ1)/\∀ m,E'.get m=e1.get m:=fun t=>by
  have:=As4 S q qa.length t [] e σ (by simp[S.len]) W1 (fun i hi=>by cases hi) (fun j hj=>by cases hj) (fun t=>.inr ⟨(fun j hj=>by cases hj),rfl⟩) ⟨0,Ax _,q.s0.symm,fun j _=>by simp⟩
  grind[Q0,Ake]
 exact⟨fun t=>(qG t).choose,fun t=>(qG t).choose_spec.1,fun t=>(qG t).choose_spec.2⟩
end
variable {T:Nat->Option AF} {pr:Nat->Option (List V->Option V)}
mutual
def V.eqv:V->V->Bool
 | .und,.und=>true
 | .skp,.skp=>true
 | .bool a,.bool b=>a==b
 | .int k n,.int k' m=>decide (k=k')&&decide (n=m)
 | .str a,.str b=>decide (a=b)
 | .nili,.nili=>true
 | .ifc,.ifc=>true
 | .nils,.nils=>true
 | .nilp,.nilp=>true
 | .nilf,.nilf=>true
 | .lst t xs,.lst t' ys=>decide (t=t')&&Abu xs ys
 | .imm r o,.imm r' o'=>decide (o=o')&&Pp r r'
 | .ptr i g o,.ptr i' g' o'=>decide (i=i')&&(decide (g=g')&&decide (o=o'))
 | .sl i g o l m w,.sl i' g' o' l' m' w'=>decide (i=i')&&(decide (g=g')&&(decide (o=o')&&(decide (l=l')&&(decide (m=m')&&w==w'))))
 | .fn f a c,.fn f' a' c'=>decide (f=f')&&(Pp a a'&&Pp c c')
 | .mp i,.mp i'=>decide (i=i')
 | .agg a,.agg b=>Pp a b
 | .tup a,.tup b=>Pp a b
 | _,_=>false
def Pp:List V->List V->Bool
 | [],[]=>true
 | a::r,b::s=>a.eqv b&&Pp r s
 | _,_=>false
def Abu:List (List V)->List (List V)->Bool
 | [],[]=>true
 | a::r,b::s=>Pp a b&&Abu r s
 | _,_=>false
end
mutual
theorem X4:∀ {a b:V},a.eqv b=true->a=b
 | .und,b,h=>by grind[V.eqv]
 | .skp,b,h=>by grind[V.eqv]
 | .bool _,b,h=>by cases b<;>simp[V.eqv]at h;rw[h]
 | .int _ _,b,h=>by cases b<;>simp[V.eqv]at h;grind
 | .str _,b,h=>by cases b<;>simp[V.eqv]at h;rw[h]
 | .nili,b,h=>by grind[V.eqv]
 | .ifc,b,h=>by grind[V.eqv]
 | .nils,b,h=>by grind[V.eqv]
 | .nilp,b,h=>by grind[V.eqv]
 | .nilf,b,h=>by grind[V.eqv]
 | .lst _ _,b,h=>by cases b<;>simp[V.eqv]at h;rw[h.1,As6 h.2]
 | .imm _ _,b,h=>by cases b<;>simp[V.eqv]at h;rw[h.1,S7 h.2]
 | .ptr _ _ _,b,h=>by cases b<;>simp[V.eqv]at h;grind
 | .sl _ _ _ _ _ _,b,h=>by cases b<;>simp[V.eqv]at h;grind
 | .fn _ _ _,b,h=>by cases b<;>simp[V.eqv]at h;rw[h.1,S7 h.2.1,S7 h.2.2]
 | .mp _,b,h=>by cases b<;>simp[V.eqv]at h;rw[h]
 | .agg _,b,h=>by cases b<;>simp[V.eqv]at h;rw[S7 h]
 | .tup _,b,h=>by cases b<;>simp[V.eqv]at h;rw[S7 h]
theorem S7:∀ {a b:List V},Pp a b=true->a=b
 | [],b,h=>by grind[Pp]
 | _::_,b,h=>by cases b<;>simp[Pp]at h;rw[X4 h.1,S7 h.2]
theorem As6:∀ {a b:List (List V)},Abu a b=true->a=b
 | [],b,h=>by grind[Abu]
 | _::_,b,h=>by cases b<;>simp[Abu]at h;rw[S7 h.1,As6 h.2]
end
def Wd(qa:List (List Nat)):Nat->Nat->Nat->Bool
 | 0,_,_=>false
 | f+1,j,i=>(qa.getD j []).any fun d=>d==i||(decide (i<d)&&Wd qa f d i)
theorem Aeo{qa:List (List Nat)}:∀ {f j i:Nat},Wd qa f j i=true->Ew qa f j i=true
 | 0,_,_,h=>by grind[Wd]
 | f+1,j,i,h=>by
  simp only[Wd,Ew,Ns,Ov,Ai]at h ⊢;obtain⟨d,hd,h⟩:=h;exact⟨d,hd,h.imp id fun h=>Aeo h.2⟩
inductive RD where
 | ev (op:AO) (e:Env) (v:V)
 | ov (args vs:List V)
def Aog:AO->Bool
 | .load _ _ _ | .mlk _ _ _=>true
 | _=>false
def Ajl{op:AO}(h:Aog op=true){e:Env}{σ σ1:St}{v:V}(hv:Ad op e σ=some (v,σ1)):σ1=σ:=by
 cases op with
 | load n one x=>
  grind[Ad,Option.map_eq_some_iff]
 | mlk z x k=>
  grind[Ad]
 | _=>cases h
def RD.R:RD->St->Prop
 | .ev op e v,s=>Ad op e s=some (v,s)
 | .ov args vs,s=>Dm s args=some vs
def Ana:Option (V × St)->Option (V × St)->Bool
 | some a,some b=>a.1.eqv b.1
 | _,_=>false
def Anb:Option (List V)->Option (List V)->Bool
 | some a,some b=>Pp a b
 | _,_=>false
def RD.same:RD->St->St->Bool
 | .ev op e _,s,s1=>Aog op&&Ana (Ad op e s) (Ad op e s1)
 | .ov args _,s,s1=>Anb (Dm s args) (Dm s1 args)
theorem RD.same_ok{r:RD}{s s1:St}(h:r.same s s1=true):r.R s1↔r.R s:=by
 cases r with
 | ev op e v=>
  simp only[RD.same,Ai]at h;simp only[RD.R];obtain⟨h0,h⟩:=h
  cases h1:Ad op e s with
  | none=>grind[Ana]
  | some a=>
   cases h2:Ad op e s1 with
   | none=>grind[Ana]
   | some b=>
    rw[h1,h2]at h;have:=X4 h;obtain⟨a1,a2⟩:=a;obtain⟨b1,b2⟩:=b;obtain rfl:=Ajl h0 h1;obtain rfl:=Ajl h0 h2
    grind
 | ov args vs=>
  simp only[RD.same]at h;simp only[RD.R]
  cases h1:Dm s args with
  | none=>grind[Anb]
  | some a=>
   cases h2:Dm s1 args with
   | none=>grind[Anb]
   | some b=>
    rw[h1,h2]at h;rw[S7 h]
abbrev Efs:=List (Nat × St × St)
abbrev Rds:=List (Nat × RD)
def A07(qa:List (List Nat))(n k:Nat)(fs:Efs)(r:RD):Bool:=fs.all fun p=>Wd qa n k p.1||r.same p.2.1 p.2.2
def Aoh(qa:List (List Nat))(n k:Nat)(fs:Efs)(ls:Rds)(σ σ1:St):Bool:=(fs.all fun p=>Wd qa n k p.1)&&ls.all fun p=>Wd qa n k p.1||p.2.same σ σ1
def Ag3(T:Nat->Option AF)(pr:Nat->Option (List V->Option V))(f:Nat):Bool:=
 match pr f with
 | some _=>true
 | none=>match T f with
  | some F=>!F.thr
  | none=>false
def Anc(T:Nat->Option AF)(pr:Nat->Option (List V->Option V))(i:AI)(e:Env)(σ:St)(v:V):Nat × RD:=
 if Aba i.op then(match Ck e i.op with
  | some (f,args)=>if Ag3 T pr f then(if(Ag args).isEmpty then(0,.ov args []) else if v.flatV then(1,.ov args ((Dm σ args).getD [])) else(2,.ov [] [])) else(2,.ov [] [])
  | none=>(2,.ov [] []))
 else if Gc T pr i.op==0 then(0,.ov [] []) else if Aog i.op then(1,.ev i.op e v) else(2,.ov [] [])
def Qw(T:Nat->Option AF)(pr:Nat->Option (List V->Option V))(rf:Bool->R8)(qa:List (List Nat))(n:Nat):Nat->List AI->Env->St->Efs->Rds->Option (Env × St)
 | _,[],e,σ,_,_=>some (e,σ)
 | k,i::l,e,σ,fs,ls=>match Cw e i with
  | some true=>(Wi rf false i.op e σ).bind fun p=>match Anc T pr i e σ p.1 with
   | (0,_)=>Qw T pr rf qa n (k+1) l (e.putO i.dst p.1) σ fs ls
   | (1,r)=>if A07 qa n k fs r then Qw T pr rf qa n (k+1) l (e.putO i.dst p.1) σ fs ((k,r)::ls) else none
   | (_,_)=>if Aoh qa n k fs ls σ p.2 then Qw T pr rf qa n (k+1) l (e.putO i.dst p.1) p.2 ((k,σ,p.2)::fs) ls else none
  | some false=>Qw T pr rf qa n (k+1) l (e.putO i.dst .skp) σ fs ls
  | none=>none
def Az6(T:Nat->Option AF)(pr:Nat->Option (List V->Option V))(rc:Mq)(rf:Bool->R8):Mq:=fun k e σ=>
 match k with
 | []=>some (e,σ)
 | .b _::k=>rc k e σ
 | .l keep c::k=>rc (.c c::.l keep c::k) (e.keep keep) σ
 | .c c::k=>match c with
  | .skip=>rc k e σ
  | .reg kill ops=>(Un rf false ops e σ).bind fun p=>rc k (p.1.del kill) p.2
  | .drw kill qa ops=>(Qw T pr rf qa ops.length 0 ops e σ [] []).bind fun p=>rc k (p.1.del kill) p.2
  | .seq a b=>rc (.c a::.c b::k) e σ
  | .cond c kill x y=>(Az5 (Ac e c)).bind fun z=>rc (.c (if z then x else y)::k) (e.del kill) σ
  | .blk id c=>rc (.c c::.b id::k) e σ
  | .loop keep c=>rc (.l keep c::k) e σ
  | .exit id=>(exitTo id k).bind fun k'=>rc k' e σ
  | .ret=>some (e,σ)
def Oj(T:Nat->Option AF)(pr:Nat->Option (List V->Option V)):Nat->Mq
 | 0=>fun _ _ _=>none
 | n+1=>Az6 T pr (Oj T pr n) (Pg T pr (Oj T pr n))
variable {T:Nat->Option AF} {pr:Nat->Option (List V->Option V)}
def Mh:AC->Bool
 | .drw _ qa ops=>Ph qa ops
 | .seq a b=>Mh a&&Mh b
 | .cond _ _ a b=>Mh a&&Mh b
 | .blk _ c=>Mh c
 | .loop _ c=>Mh c
 | _=>true
def Mi:It->Bool
 | .c c=>Mh c
 | .b _=>true
 | .l _ c=>Mh c
def Adk{id:Nat}:∀ {k k':List It},exitTo id k=some k'->k.all (Mi)=true->k'.all (Mi)=true
 | [],_,h,_=>by cases h
 | .b i::k,k',h,hk=>by
  simp only[exitTo]at h;simp only[B5,Ai]at hk
  split at h
  .grind
  .exact Adk h hk.2
 | .c c::k,k',h,hk=>by
  simp only[exitTo]at h;simp only[B5,Ai]at hk;exact Adk h hk.2
 | .l ks c::k,k',h,hk=>by
  simp only[exitTo]at h;simp only[B5,Ai]at hk;exact Adk h hk.2
section
variable (qd:∀ f F,T f=some F->F.spec=none->Mh F.body=true)
def Akf{rc:Mq}(ih:∀ k e σ e' σ',k.all (Mi)=true->rc k e σ=some (e',σ')->Ev T pr (.code k e σ e' σ')){f:Nat}{F:AF}(hT:T f=some F)(qc:F.spec=none)(hc:Mh F.body=true){vs:List V}{σ σ':St}{v:V}(h:Lp rc F vs σ=some (v,σ')):Ev T pr (.fn f vs σ v σ'):=by
 unfold Lp at h
 split at h
 .rename_i hl;obtain⟨⟨e1,σ1⟩,hp,h⟩:=Ez.1 h;unfold A06 at h;obtain⟨v',hv,h⟩:=Ez.1 h;have hE:=ih _ _ _ _ _ (by grind[Mi]) hp;rcases A8h h with⟨h1,h2,h3,rfl,rfl⟩ | ⟨js,h1,rfl,rfl⟩
  .exact .fn hT qc hl hE hv h1 h2 (fun i ob hi ho=>.inr (h3 i ob hi ho))
  .exact .fnL hT qc hl hE hv h1
 .cases h
include qd in
def As7{rc:Mq}(ih:∀ k e σ e' σ',k.all (Mi)=true->rc k e σ=some (e',σ')->Ev T pr (.code k e σ e' σ')){s:Bool}{f:Nat}{args:List V}{σ σ1:St}{v:V}(h:Pg T pr rc s f args σ=some (v,σ1)):CallR T pr s f args σ v σ1:=by
 unfold Pg at h
 have qm:∀ {s:Bool},¬ ((s&&!(Ag args).isEmpty)=true)->s=true->Ag args=[]:=fun {s} h1 h2=>by
  grind
 split at h
 .rename_i q hq
  split at h
  .cases h
  .rename_i hs;obtain⟨ws,hx,h⟩:=Ez.1 h;obtain⟨v',hv,h⟩:=Cf.1 h;cases h;exact .prim hq (qm hs) hx hv
 .rename_i hq
  split at h
  .cases h
  .rename_i F hT
   split at h
   .rename_i q ht qc;exact .spec hq hT ht qc h
   .rename_i ht qc;exact .thr hq hT ht qc (Akf ih hT qc (qd _ _ hT qc) h)
   .rename_i ht qc
    split at h
    .cases h
    .rename_i hs;unfold Abt at h;obtain⟨ws,hx,h⟩:=Ez.1 h;obtain⟨⟨v0,σ0⟩,hb,h⟩:=Ez.1 h;obtain⟨v',hv,h⟩:=Cf.1 h;cases h;exact .pure (qm hs) hx ⟨F,hT,ht,qc,v0,σ0,Akf ih hT qc (qd _ _ hT qc) hb,hv⟩
   grind
include qd in
def Ald{rc:Mq}(ih:∀ k e σ e' σ',k.all (Mi)=true->rc k e σ=some (e',σ')->Ev T pr (.code k e σ e' σ')):∀ {l:List AI} {e e':Env} {σ σ':St},Un (Pg T pr rc) false l e σ=some (e',σ')->Ev T pr (.ops l e σ e' σ')
 | [],e,e',σ,σ',h=>by cases h;exact .opsNil
 | i::l,e,e',σ,σ',h=>by
  unfold Un at h
  split at h
  .rename_i hw;obtain⟨⟨v,σ1⟩,hp,h⟩:=Ez.1 h;have hE:=Ald ih h;rcases Av2 hp with⟨_,hv⟩ | ⟨f,args,hc,hf,_⟩
   .exact .opsVal hw hv hE
   .cases As7 qd ih hf with
    | prim h1 _ h2 h3=>exact .opsPrim hw hc h1 h2 h3 hE
    | pure _ h2 h3=>
     obtain⟨F,hT,ht,qc,v0,σ0,h4,h5⟩:=h3;exact .opsPure hw hc hT ht qc h2 h4 h5 hE
    | thr _ hT ht qc h4=>exact .opsThr hw hc hT ht qc h4 hE
    | spec _ hT ht qc h4=>exact .opsSpec hw hc hT ht qc h4 hE
  .rename_i hw;exact .opsSkip hw (Ald ih h)
  .cases h
include qd in
def Ae8{rc:Mq}(ih:∀ k e σ e' σ',k.all Mi=true->rc k e σ=some (e',σ')->Ev T pr (.code k e σ e' σ')){qa:List (List Nat)}{n:Nat}:∀ {l:List AI} {k:Nat} {e e':Env} {σ σ':St} {fs:Efs} {ls:Rds} {qj:List (Nat × (St->Prop))},Qw T pr (Pg T pr rc) qa n k l e σ fs ls=some (e',σ') ->
  (∀ j s s1,(j,s,s1)∈fs->True)->(∀ j R,(j,R)∈qj->(∀ s,R s)\/∃ r,(j,r)∈ls/\R=RD.R r)->TG T pr qa n k l e σ fs qj e' σ'
 | [],k,e,e',σ,σ',fs,ls,qj,h,_,_=>by cases h;exact .nil
 | i::l,k,e,e',σ,σ',fs,ls,qj,h,hfs,qC=>by
  unfold Qw at h
  have qs:∀ {v:V},(∀ s,Sg T pr i e s v s)->Qw T pr (Pg T pr rc) qa n (k+1) l (e.putO i.dst v) σ fs ls=some (e',σ')->TG T pr qa n k (i::l) e σ fs qj e' σ':=fun {v} hs h=>
   .read (fun _=>True) trivial (fun s _=>hs s) (fun _ _ _ _=>.inr Iff.rfl) (Ae8 ih h (fun _ _ _ _=>trivial) (fun j R hm=>by
    rcases Bp.1 hm with hm | hm
    .grind
    simp_all))
  split at h
  .rename_i hw;obtain⟨⟨v,σ1⟩,hp,h⟩:=Ez.1 h
   have qQ:∀ {r:RD},RD.R r σ->(∀ s,RD.R r s->Sg T pr i e s v s)->A07 qa n k fs r=true->Qw T pr (Pg T pr rc) qa n (k+1) l (e.putO i.dst v) σ fs ((k,r)::ls)=some (e',σ')->TG T pr qa n k (i::l) e σ fs qj e' σ':=fun {r} h0 hs qn h=>
    .read (RD.R r) h0 hs (fun j s s1 hm=>by
     have:=Bu.1 qn _ hm;simp only[Ov]at this
     grind[Aeo,RD.same_ok]) (Ae8 ih h (fun _ _ _ _=>trivial) (fun j R hm=>by
      rcases Bp.1 hm with hm | hm
      .grind
      .exact(qC j R hm).imp id fun⟨r',h1,h2⟩=>⟨r',Cb _ h1,h2⟩))
   have eff:Sg T pr i e σ v σ1->Aoh qa n k fs ls σ σ1=true->Qw T pr (Pg T pr rc) qa n (k+1) l (e.putO i.dst v) σ1 ((k,σ,σ1)::fs) ls=some (e',σ')->TG T pr qa n k (i::l) e σ fs qj e' σ':=fun hs qn h=>by
    unfold Aoh at qn;simp only[Ai]at qn;refine .eff hs (fun j s s1 hm=>Aeo (Bu.1 qn.1 _ hm)) (fun j R hm=>?_) (Ae8 ih h (fun _ _ _ _=>trivial) qC);rcases qC j R hm with h' | ⟨r,h1,rfl⟩
    .grind
    .have:=Bu.1 qn.2 _ h1;simp only[Ov]at this
     grind[Aeo,RD.same_ok]
   rcases Av2 hp with⟨jf,hv⟩ | ⟨f,args,hc,hf,_⟩
   .have hs:Sg T pr i e σ v σ1:=.val hw hv;unfold Anc at h;rw[jf]at h;simp only[Hg,if_false]at h
    split at h
    .rename_i hk
     split at hk
     .rename_i h0;refine qs (fun s=>.val hw ((Adp (by simpa using h0) hv).2 s)) h
     grind
    .rename_i r hk
     split at hk
     .cases hk
     .split at hk
      .rename_i hr;cases hk
       split at h
       .rename_i qn;obtain rfl:=Ajl hr hv;exact qQ (r:=.ev i.op e v) hv (fun s hs=>.val hw hs) qn h
       grind
      grind
    grind
   .have qH:=As7 qd ih hf
    have hs:Sg T pr i e σ v σ1:=by
     cases qH with
     | prim h1 _ h2 h3=>exact .prim hw hc h1 h2 h3
     | pure _ h2 h3=>exact .pure hw hc h2 h3
     | thr _ hT ht qc h4=>exact .thr hw hc hT ht qc h4
     | spec _ hT ht qc h4=>exact .spec hw hc hT ht qc h4
    have qZ:Aba i.op=true:=by
     cases hop:i.op with
     | call=>rfl
     | callv=>rfl
     | _=>grind[Ck]
    unfold Anc at h;rw[qZ]at h;simp only[if_true,hc]at h;by_cases qt:Ag3 T pr f=true
    .rw[if_pos qt]at h
     have qy:σ1=after σ args v/\∃ vs,Dm σ args=some vs/\∀ s,Dm s args=some vs->after s args v=s->Sg T pr i e s v s:=by
      cases qH with
      | prim h1 _ h2 h3=>exact⟨rfl,_,h2,fun s ho ha=>by have:=Sg.prim (T:=T) hw hc h1 ho h3;grind⟩
      | pure _ h2 h3=>exact⟨rfl,_,h2,fun s ho ha=>by have:=Sg.pure hw hc ho h3;grind⟩
      | thr hq hT ht qc h4=>grind[Ag3]
      | spec hq hT ht qc h4=>grind[Ag3]
     obtain⟨jm,vs,qN,qi⟩:=qy;by_cases qp:(Ag args).isEmpty=true
     .rw[if_pos qp]at h
      grind[Aen,Xb]
     .rw[if_neg qp]at h;by_cases qX:v.flatV=true
      .rw[if_pos qX]at h;rw[qN]at h;simp only[Q8]at h
       split at h
       .rename_i qn;exact qQ (r:=.ov args vs) qN (fun s hs=>qi s hs (by simp_all [after])) qn h
       grind
      grind
    grind
  .rename_i hw;exact qs (fun s=>.off hw) h
  grind
include qd in
def Av4:∀ (n:Nat) (k:List It) (e:Env) (σ:St) (e':Env) (σ':St),k.all (Mi)=true->Oj T pr n k e σ=some (e',σ')->Ev T pr (.code k e σ e' σ')
 | 0,_,_,_,_,_,_,h=>by cases h
 | n+1,k,e,σ,e',σ',hk,h=>by
  have ih:=Av4 n;simp only[Oj]at h;unfold Az6 at h
  split at h
  .cases h;exact .cNil
  .simp only[B5,Ai]at hk;exact .cEnd (ih _ _ _ _ _ hk.2 h)
  .simp only[B5,Ai]at hk;exact .cAgain (ih _ _ _ _ _ (by simp only[B5,Ai];exact⟨hk.1,hk⟩) h)
  .simp only[B5,Ai]at hk;obtain⟨hc,hk⟩:=hk
   split at h
   .exact .cSkip (ih _ _ _ _ _ hk h)
   .obtain⟨⟨e1,σ1⟩,hp,h⟩:=Ez.1 h;exact .cReg (Ald qd ih hp) (ih _ _ _ _ _ hk h)
   .rename_i kill qa ops;obtain⟨⟨e1,σ1⟩,hp,h⟩:=Ez.1 h;have qo:Ph qa ops=true:=hc;obtain⟨E2,h1,h2⟩:=As5 qo (Ae8 qd ih hp (fun _ _ _ h=>by cases h) (fun _ _ h=>by cases h));exact .cDrw E2 h1 h2 (ih _ _ _ _ _ hk h)
   .simp only[Mi,Mh,Ai]at hc;exact .cSeq (ih _ _ _ _ _ (by simp_all [Mi]) h)
   .obtain⟨z,hz,h⟩:=Ez.1 h;simp only[Mi,Mh,Ai]at hc;refine .cCond (z:=z) ?_ (ih _ _ _ _ _ (by simp only[B5,Ai,Mi];grind) h);unfold Az5 at hz
    grind
   .exact .cBlk (ih _ _ _ _ _ (by simp only[B5,Ai,Mi];exact⟨hc,trivial,hk⟩) h)
   .exact .cLoop (ih _ _ _ _ _ (by simp only[B5,Ai,Mi];exact⟨hc,hk⟩) h)
   .obtain⟨k',hx,h⟩:=Ez.1 h;exact .cExit hx (ih _ _ _ _ _ (Adk hx hk) h)
   .cases h;exact .cRet
include qd in
def Rh{n f:Nat}{F:AF}(hT:T f=some F)(ht:F.thr=false)(qc:F.spec=none){vs:List V}{v:V}(h:((Lp (Oj T pr n) F vs []).bind fun p=>Ed p.2 p.1)=some v):Fn T pr f vs v:=by
 obtain⟨⟨v0,σ0⟩,hb,h⟩:=Ez.1 h;exact⟨F,hT,ht,qc,v0,σ0,Akf (fun _ _ _ _ _ hk h=>Av4 qd n _ _ _ _ _ hk h) hT qc (qd _ _ hT qc) hb,h⟩
end
variable {T:Nat->Option AF} {pr:Nat->Option (List V->Option V)}
abbrev Fs:=List (Nat × St × St)
abbrev Ls:=List (Nat × (St->Prop))
def WG(T:Nat->Option AF)(pr:Nat->Option (List V->Option V))(qa:List (List Nat))(n k:Nat)(l:List AI)(e:Env)(σ:St)(fs:Fs)(ls:Ls)(Q:Env->St->Prop):Prop:=∃ e' σ',TG T pr qa n k l e σ fs ls e' σ'/\Q e' σ'
def Y4(qa:List (List Nat))(n k:Nat)(R:St->Prop):Fs->Prop
 | []=>True
 | (j,s,s1)::r=>(Ew qa n k j=true\/(R s/\R s1))/\Y4 qa n k R r
def Q1(qa:List (List Nat))(n k:Nat):Fs->Prop
 | []=>True
 | (j,_,_)::r=>Ew qa n k j=true/\Q1 qa n k r
def Q2(qa:List (List Nat))(n k:Nat)(σ σ1:St):Ls->Prop
 | []=>True
 | (j,R)::r=>(Ew qa n k j=true\/(R σ/\R σ1))/\Q2 qa n k σ σ1 r
def Ale{qa:List (List Nat)}{n k:Nat}{R:St->Prop}:∀ {fs:Fs},Y4 qa n k R fs->∀ j s s1,(j,s,s1)∈fs->Ew qa n k j=true\/(R s1↔R s)
 | [],_,_,_,_,h=>by cases h
 | _::_,h,j,s,s1,hm=>by
  rcases Bp.1 hm with rfl | hm
  .exact h.1.imp id fun h=>⟨fun _=>h.1,fun _=>h.2⟩
  .exact Ale h.2 j s s1 hm
def Av5{qa:List (List Nat)}{n k:Nat}:∀ {fs:Fs},Q1 qa n k fs->∀ j s s1,(j,s,s1)∈fs->Ew qa n k j=true
 | [],_,_,_,_,h=>by cases h
 | _::_,h,j,s,s1,hm=>by
  rcases Bp.1 hm with rfl | hm
  .exact h.1
  .exact Av5 h.2 j s s1 hm
def Av6{qa:List (List Nat)}{n k:Nat}{σ σ1:St}:∀ {ls:Ls},Q2 qa n k σ σ1 ls->∀ j R,(j,R)∈ls->Ew qa n k j=true\/(R σ1↔R σ)
 | [],_,_,_,h=>by cases h
 | _::_,h,j,R,hm=>by
  rcases Bp.1 hm with rfl | hm
  .exact h.1.imp id fun h=>⟨fun _=>h.1,fun _=>h.2⟩
  .exact Av6 h.2 j R hm
section
variable {Q:Env->St->Prop} {e:Env} {σ:St} {k:List It}
def Bhm{kill:List Nat}{qa:List (List Nat)}{ops:List AI}(qd:Ph qa ops=true)(h:∀ K:Env->St->Prop,(∀ e1 σ1,W T pr k (e1.del kill) σ1 Q->K e1 σ1)->WG T pr qa ops.length 0 ops e σ [] [] K):W T pr (.c (.drw kill qa ops)::k) e σ Q:=by
 obtain⟨e1,σ1,hT,e',σ',h2,q⟩:=h _ fun _ _ h=>h
 obtain⟨E2,g1,g2⟩:=As5 qd hT;exact⟨e',σ',.cDrw E2 g1 g2 h2,q⟩
variable {qa:List (List Nat)} {n m:Nat} {l:List AI} {fs:Fs} {ls:Ls}
def Bhn(q:Q e σ):WG T pr qa n m [] e σ fs ls Q:=⟨e,σ,.nil,q⟩
def Afx{i:AI}{v:V}(hs:∀ s,Sg T pr i e s v s)(h:WG T pr qa n (m+1) l (e.putO i.dst v) σ fs ls Q):WG T pr qa n m (i::l) e σ fs ls Q:=by
 obtain⟨e',σ',h,q⟩:=h;refine⟨e',σ',.read (fun _=>True) trivial (fun s _=>hs s) (fun _ _ _ _=>.inr Iff.rfl) ?_,q⟩
 have more:∀ {k:Nat} {l:List AI} {e e':Env} {σ σ':St} {fs:Fs} {ls:Ls},TG T pr qa n k l e σ fs ls e' σ'->∀ qj,(∀ j R,(j,R)∈qj->(∀ s,R s)\/(j,R)∈ls)->TG T pr qa n k l e σ fs qj e' σ':=by
  intro k l e e' σ σ' fs ls h
  induction h with
  | nil=>exact fun _ _=>.nil
  | read R h1 h2 h3 _ ih=>
   exact fun qj hl=>.read R h1 h2 h3 (ih _ fun j R' hm=>by
    rcases Bp.1 hm with hm | hm
    .grind
    .exact(hl j R' hm).imp id fun h=>Cb _ h)
  | eff h1 h2 h3 _ ih=>
   exact fun qj hl=>.eff h1 h2 (fun j R hm=>by
    rcases hl j R hm with h | h
    .grind
    grind) (ih _ hl)
 grind
theorem Bho{i:AI}{v:V}(hg:Cw e i=some true)(hv:∀ s,Ad i.op e s=some (v,s))(h:WG T pr qa n (m+1) l (e.putO i.dst v) σ fs ls Q):WG T pr qa n m (i::l) e σ fs ls Q:=Afx (fun s=>.val hg (hv s)) h
theorem Bmj{i:AI}{v:V}(hg:Cw e i=some true)(hv:Ad i.op e σ=some (v,σ))(hc:Y4 qa n m (fun s=>Ad i.op e s=some (v,s)) fs)(h:WG T pr qa n (m+1) l (e.putO i.dst v) σ fs ((m,fun s=>Ad i.op e s=some (v,s))::ls) Q):WG T pr qa n m (i::l) e σ fs ls Q:=by
 obtain⟨e',σ',h,q⟩:=h;exact⟨e',σ',.read (fun s=>Ad i.op e s=some (v,s)) hv (fun s hs=>.val hg hs) (Ale hc) h,q⟩
def Aye{i:AI}{v:V}{σ1:St}(hs:Sg T pr i e σ v σ1)(h1:Q1 qa n m fs)(h2:Q2 qa n m σ σ1 ls)(h:WG T pr qa n (m+1) l (e.putO i.dst v) σ1 ((m,σ,σ1)::fs) ls Q):WG T pr qa n m (i::l) e σ fs ls Q:=by
 obtain⟨e',σ',h,q⟩:=h;exact⟨e',σ',.eff hs (Av5 h1) (Av6 h2) h,q⟩
theorem Bhp{i:AI}{v:V}{σ1:St}(hg:Cw e i=some true)(hv:Ad i.op e σ=some (v,σ1))(h1:Q1 qa n m fs)(h2:Q2 qa n m σ σ1 ls)(h:WG T pr qa n (m+1) l (e.putO i.dst v) σ1 ((m,σ,σ1)::fs) ls Q):WG T pr qa n m (i::l) e σ fs ls Q:=Aye (.val hg hv) h1 h2 h
end
section
variable {Q:Env->St->Prop} {e:Env} {σ:St} {k:List It} {l:List AI}
end
def Av{Q:Env->St->Prop}{e e':Env}{σ:St}{k:List It}{keep:List Nat}{c:AC}(h:W T pr (.l keep c::k) e' σ Q)(hk:e.keep keep=e'.keep keep):W T pr (.l keep c::k) e σ Q:=by
 obtain⟨e1,σ1,h,q⟩:=h
 cases h with
 | cAgain h=>exact⟨e1,σ1,.cAgain (hk ▸ h),q⟩
def Bhq(k:IntKind)(n:Int):V.cellB (.int k n)=true:=rfl
def Bhr(k:IntKind)(n:Int):V.rowB (.int k n)=true:=rfl
def Bhs(l:List UInt8):V.cellB (.str l)=true:=rfl
def Bht(l:List UInt8):V.rowB (.str l)=true:=rfl
def Bcr(b:Bool):V.cellB (.bool b)=true:=rfl
def Bcs(b:Bool):V.rowB (.bool b)=true:=rfl
def Bct:V.cellB V.nils=true:=rfl
def Bcu:V.rowB V.nils=true:=rfl
def Bcv:V.cellB V.nili=true:=rfl
def Bcw:V.rowB V.nili=true:=rfl
def Bhu(t:Nat)(xs:List (List V)):V.cellB (.lst t xs)=true:=rfl
def Bhv(t:Nat)(xs:List (List V)):V.rowB (.lst t xs)=true:=rfl
def Bhw(i g o:Nat):V.cellB (.ptr i g o)=true:=rfl
def Bhx(i g o:Nat):V.rowB (.ptr i g o)=false:=rfl
def Bmk(i g o l m:Nat)(w:Bool):V.cellB (.sl i g o l m w)=true:=rfl
def Bml(i g o l m:Nat)(w:Bool):V.rowB (.sl i g o l m w)=false:=rfl
def Bcx:V.cellB V.nilp=true:=rfl
def Bcy:V.rowB V.nilp=false:=rfl
def Bcz:V.cellB V.nilf=true:=rfl
def Bc0:V.rowB V.nilf=false:=rfl
def Bhy:V.cellB V.ifc=true:=rfl
def Bhz:V.rowB V.ifc=false:=rfl
def Bh0(r:List V)(o:Nat):V.cellB (.imm r o)=true:=rfl
def Bh1(r:List V)(o:Nat):V.rowB (.imm r o)=false:=rfl
def Bmm(f:Nat)(a c:List V):V.cellB (.fn f a c)=true:=rfl
def Bmn(f:Nat)(a c:List V):V.rowB (.fn f a c)=false:=rfl
def Bmo(i:Nat):V.cellB (.mp i)=true:=rfl
def Bmp(i:Nat):V.rowB (.mp i)=false:=rfl
