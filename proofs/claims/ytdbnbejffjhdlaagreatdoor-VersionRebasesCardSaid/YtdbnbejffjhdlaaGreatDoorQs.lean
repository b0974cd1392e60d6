/- Regions in which two effects have no order: they are walked once for each order. -/
import Derived.Test.YtdbnbejffjhdlaaGreatDoorLu
set_option linter.all false
namespace Go.Proofs.YtdbnbejffjhdlaaGreatDoor.KM
open Go
variable {T:Nat->Option AF} {pr:Nat->Option (List V->Option V)}
inductive LXt (qc:List (List Nat)) (n:Nat):List Nat->List Nat->Prop
 | nil {qd:List Nat}:qd.length=n->LXt qc n qd []
 | cons {qd:List Nat} {i:Nat} {L:List Nat}:i<n->i ∉ qd->(∀ d∈qc.getD i [],d∈qd)->LXt qc n (i::qd) L->LXt qc n qd (i::L)
def Aw8{qc:List (List Nat)}{n:Nat}(hn:qc.length=n)(qv:∀ j,j<n->∀ d∈qc.getD j [],d<j):∀ (fuel t:Nat) (qd:List Nat),qd.length+fuel=n->qd.Nodup->(∀ i∈qd,i<n)->LXt qc n qd (Ow qc fuel t qd)
 | 0,t,qd,hl,_,_=>.nil AA
 | fuel+1,t,qd,hl,hnd,qq=>by
  have qK:∃ j,j<n/\j ∉ qd/\∀ d∈qc.getD j [],d∈qd:=by
   have jC:∃ j,j<n/\j ∉ qd:=by
    rcases Classical.em (∃ j,j<n/\j ∉ qd) with h | h
    .exact h
    .exfalso;have qC:∀ j,j<n->j∈qd:=fun j hj=>Classical.byContradiction fun hc=>h ⟨j,hj,hc⟩
     have h1:=Acw n qd qC;omega
   have:∀ k,∀ j,j<=k->j<n->j ∉ qd->∃ j,j<n/\j ∉ qd/\∀ d∈qc.getD j [],d∈qd:=by
    intro k
    induction k with
    | zero=>
     intro j hj h1 h2;obtain rfl:j=0:=by omega
     exact⟨0,h1,h2,fun d hd=>absurd (qv 0 h1 d hd) AA⟩
    | succ k ih=>
     intro j hj h1 h2;by_cases qm:∀ d∈qc.getD j [],d∈qd
     .exact⟨j,h1,h2,qm⟩
     .obtain⟨d,hd,qT⟩:∃ d,d∈qc.getD j []/\d ∉ qd:=Classical.byContradiction fun hc=>qm fun d hd=>Classical.byContradiction fun qT=>hc ⟨d,hd,qT⟩
      have:=qv j h1 d hd;exact ih d AA AA qT
   obtain⟨j,h1,h2⟩:=jC;exact this j j (An _) h1 h2
  unfold Ow;generalize ju:(List.range qc.length).filter (Mq qc qd)=rs
  have qJ:0<rs.length:=by
   obtain⟨j,h1,h2,h3⟩:=qK
   have:j∈rs:=by
    rw[<-ju,Rz];refine⟨by rw[Gw,hn];exact h1,?_⟩;simp only[Mq,Ak,N8,B6];refine⟨?_,fun d hd=>Qr.2 (h3 d hd)⟩
    cases hel:qd.elem j with
    | false=>rfl
    | true=>exact absurd (Qr.1 hel) h2
   exact List.length_pos_of_mem this
  have qw:rs[t % rs.length]?=some (rs[t % rs.length]'(R5 _ qJ)):=Cd _;generalize rs[t % rs.length]'(R5 _ qJ)=i at qw;rw[qw];have jk:i∈rs:=F0 qw;rw[<-ju,Rz]at jk;obtain⟨jl,qj⟩:=jk;have hi:i<n:=by rw[Gw,hn]at jl;exact jl
  simp only[Mq,Ak,N8,B6]at qj;have qo:i ∉ qd:=fun h=>by rw[Qr.2 h]at qj;cases qj.1
  have qi:∀ d∈qc.getD i [],d∈qd:=fun d hd=>Qr.1 (qj.2 d hd)
  exact .cons hi qo qi (Aw8 hn qv fuel _ (i::qd) AJ (Ahk.2 ⟨qo,hnd⟩) (fun j hj=>by
   rcases Bo.1 hj with rfl | hj
   .exact hi
   .exact qq j hj))
section
variable {qc:List (List Nat)} {ops:List AI} {e e1:Env} {σ σ1:St} {qG:Nat->Env} {st:Nat->St} {val:Nat->V} {ro:Nat->Option (St->Prop)}
def Asw(qp:StaP qc ops)(q:Sr T pr qc ops.length 0 ops e σ [] [] e1 σ1 qG st val ro):∀ (L qd:List Nat) (E:Env) (S':St),LXt qc ops.length qd L->qd.Nodup->(∀ i∈qd,i<ops.length)->DC qc qd ->
  EnvOK ops val e (·∈qd) E->X7 ops ro st qd S'->∃ E',Ev T pr (.ops (Dy ops L) E S' E' σ1)/\∀ m,E'.get m=e1.get m
 | [],qd,E,S',.nil hl,hn,qq,hdc,hE,⟨m,hm,hS,heff⟩=>by
  have qm:∀ j,j<ops.length->j∈qd:=fun j hj=>Awd hn qq AA hj
  refine⟨E,?_,fun k=>?_⟩
  .have jc:S'=σ1:=by
    rw[hS,<-q.s1,F9];obtain⟨d,hd⟩:∃ d,m+d=ops.length:=⟨ops.length - m,by omega⟩;rw[<-hd];refine(Ok q id d m AA (fun k h1 h2 he=>?_)).symm;have:=(heff k he).2 (qm k AA);omega
   rw[jc];exact .opsNil
  .have ht:=Yy q ops.length (An _);have ji:=q.e1;rw[F9]at ji;rw[<-ji];exact hE.same ht (fun j hj=>⟨fun h=>qq j h,fun h=>qm j h⟩)
 | i::L,qd,E,S',.cons hi qo qi hL,hn,qq,hdc,hE,⟨m,hm,hS,heff⟩=>by
  obtain⟨x,hx⟩:∃ x,ops[i]?=some x:=⟨ops[i],Cd hi⟩
  have jv:∀ j y,i<j->ops[j]?=some y->j∈qd->Np x y=true:=fun j y qW hy hj=>by
   rcases qp.pair i j x y qW hx hy with h | h
   .exact absurd (Si hdc _ j i h hj) qo
   .exact h
  have jB:∀ j y,j<i->ops[j]?=some y->j ∉ qd->Np y x=true:=fun j y qW hy hj=>by
   rcases qp.pair j i y x qW hy hx with h | h
   .exact absurd (Yx hdc qi h) hj
   .exact h
  have ql:∀ {j t:Nat},Oz ops j=some t->∃ y,ops[j]?=some y/\y.dst=some t:=fun {j t} h=>by
   unfold Oz at h
   cases hy:ops[j]? with
   | none=>rw[hy]at h;simp at h
   | some y=>rw[hy]at h;exact⟨y,rfl,by simpa using h⟩
  have qr:Agree (qG i) E x.rd:=fun t ht=>by
   refine(Yy q i AA).same hE (fun j hj=>?_);obtain⟨y,hy,qP⟩:=ql hj;constructor
   .intro qt;rcases Classical.em (j∈qd) with h | h
    .exact h
    .have:=jB j y qt hy h;simp only[Np,qP,Ak,N8]at this;have h1:=this.1.1;rw[Qr.2 ht]at h1;cases h1
   .intro jm;rcases Yj j i with h | h | h
    .exact h
    .subst h;exact absurd jm qo
    .have:=jv j y h hy jm;simp only[Np,qP,Ak,N8]at this;have h1:=this.2;rw[Qr.2 ht]at h1;cases h1
  obtain⟨qV,qg⟩:=q.stp i x hx;simp only[F9]at qV qg
  have jw:EnvOK ops val e (·∈i::qd) (E.putO x.dst (val i)):=(hE.put hx (fun j t hj jI jD=>by
   obtain⟨y,hy,qP⟩:=ql jD;rcases Yj j i with h | h | h
   .exact h
   .subst h;exact absurd hj qo
   .have:=jv j y h hy hj;simp only[Np,jI,qP,Ak,N8]at this;have h1:=this.1.2
    simp at h1)).iff (fun j=>by simp[Bo])
  have qU:DC qc (i::qd):=fun j hj d hd=>by
   rcases Bo.1 hj with rfl | hj
   .exact Db _ (qi d hd)
   .exact Db _ (hdc j hj d hd)
  have next:∀ S2,X7 ops ro st (i::qd) S2->Sg T pr x E S' (val i) S2->∃ E',Ev T pr (.ops (Dy ops (i::L)) E S' E' σ1)/\∀ m,E'.get m=e1.get m:=fun S2 qR jd=>by
   obtain⟨E',h1,h2⟩:=Asw qp q L (i::qd) _ S2 hL (Ahk.2 ⟨qo,hn⟩) (fun j hj=>by
    rcases Bo.1 hj with rfl | hj
    .exact hi
    .exact qq j hj) qU jw qR
   refine⟨E',?_,h2⟩
   have:Dy ops (i::L)=x::Dy ops L:=by
    unfold Dy;rw[Lo,hx]
   rw[this];exact jd.ev h1
  have hb:=Awf qp.dep
  cases hro:ro i with
  | none=>
   rw[hro]at qg;have qg:Sg T pr x (qG i) (st i) (val i) (st (i+1)):=qg
   have qs:∀ k,X3 ops ro k->(k∈qd↔k<i):=fun k ⟨qY,qO⟩=>by
    constructor
    .intro hk;rcases Yj k i with h | h | h
     .exact h
     .subst h;exact absurd hk qo
     .have:=q.d0 i k h qY (by simpa using hro) (by simpa using qO);simp only[F9]at this;exact absurd (Si hdc _ k i this hk) qo
    .intro hk;have:=q.d0 k i hk hi (by simpa using qO) (by simpa using hro);simp only[F9]at this;exact Yx hdc qi this
   have jx:S'=st i:=by
    rw[hS];rcases Ahw m i with qy | qy
    .obtain⟨d,rfl⟩:=Tv qy
     exact(Ok q id d m AA (fun k a1 a2 he=>by
      have:=(heff k he).2 ((qs k he).2 a2)
      omega)).symm
    .obtain⟨d,rfl⟩:=Tv qy
     exact Ok q id d i AA (fun k a1 a2 he=>by
      have:=(qs k he).1 ((heff k he).1 a2)
      omega)
   rw[jx]at next ⊢
   refine next (st (i+1)) ⟨i+1,by omega,rfl,fun k he=>?_⟩ (qg.move qr)
   rw[Bo,qs k he];omega
  | some R=>
   rw[hro]at qg;obtain⟨jL,jn,jF⟩:st (i+1)=st i/\R (st i)/\∀ s',R s'->Sg T pr x (qG i) s' (val i) s':=qg
   have qR:X7 ops ro st (i::qd) S':=⟨m,hm,hS,fun k he=>by
    rw[heff k he,Bo];constructor
    .exact .inr
    .rintro(rfl | h)
     .rw[he.2]at hro;cases hro
     .exact h⟩
   refine next S' qR ((jF S' ?_).move qr)
   have qI:∀ k,X3 ops ro k->(k∈qd/\i<k\/k ∉ qd/\k<i)->R (st (k+1))=R (st k):=fun k ⟨qY,qO⟩ hk=>by
    have hd:=q.d1 i k R hi qY (by simpa using hro) (by simpa using qO);simp only[F9]at hd;rcases hd with h | h | h
    .have qE:=Yx hdc qi h;rcases hk with⟨_,qt⟩ | ⟨hk,_⟩
     .have:=hb _ i k hi h;omega
     .exact absurd qE hk
    .rcases hk with⟨hk,_⟩ | ⟨hk,qt⟩
     .exact absurd (Si hdc _ k i h hk) qo
     .have:=hb _ k i AA h;omega
    .exact propext h
   rw[hS];rcases Ahw m i with qy | qy
   .obtain⟨d,rfl⟩:=Tv qy
    have:=Ok q R d m AA (fun k a1 a2 he=>qI k he (.inr ⟨fun qE=>by
     have:=(heff k he).2 qE
     omega,a2⟩))
    rw[<-this];exact jn
   .obtain⟨d,rfl⟩:=Tv qy
    have:=Ok q R d i AA (fun k a1 a2 he=>by
     have qE:=(heff k he).1 a2;rcases Nat.eq_or_lt_of_le a1 with rfl | h
     .exact absurd qE qo
     .exact qI k he (.inl ⟨qE,h⟩))
    rw[this];exact jn
def A74(qp:O1 qc ops=true)(h:TG T pr qc ops.length 0 ops e σ [] [] e1 σ1){L:List Nat}(hL:LXt qc ops.length [] L):∃ E',Ev T pr (.ops (Dy ops L) e σ E' σ1)/\∀ m,E'.get m=e1.get m:=by
 obtain⟨qG,st,val,ro,q⟩:=h.sr;exact Asw (Auc qp) q L [] e σ hL V5 (fun i hi=>by cases hi) (fun j hj=>by cases hj) (fun t=>.inr ⟨(fun j hj=>by cases hj),rfl⟩) ⟨0,Av _,q.s0.symm,fun j _=>by simp⟩
end
def Ye(L:List Nat)(a b:Nat):Prop:=∀ L1 L2,L=L1++b::L2->a∈L1
def Bho{L:List Nat}{a b:Nat}(qD:a≠b):Ye L a b\/Ye L b a:=by
 rcases Classical.em (Ye L a b) with h | h
 .exact .inl h
 .refine .inr ?_;unfold Ye at h;obtain⟨L1,h⟩:=Classical.not_forall.1 h;obtain⟨L2,h⟩:=Classical.not_forall.1 h;obtain⟨h1,h2⟩:=Classical.not_imp.1 h;intro M1 M2 h3;rw[h1]at h3;rcases List.append_eq_append_iff.1 h3 with⟨c,rfl,h4⟩ | ⟨c,rfl,h4⟩
  .cases c with
   | nil=>simp at h4;exact absurd h4.1.symm qD
   | cons x c=>simp at h4;simp[h4.1]
  .cases c with
   | nil=>simp at h4;exact absurd h4.1 qD
   | cons x c=>simp at h4;exact absurd (by simp[h4.1]) h2
def DR(T:Nat->Option AF)(pr:Nat->Option (List V->Option V))(qc:List (List Nat))(X:List (Nat × Nat))(ops:List AI)(e:Env)(σ:St)(e1:Env)(σ1:St):Prop:=
 ∀ L,LXt qc ops.length [] L->(∀ p∈X,Ye L p.1 p.2)->∃ E',Ev T pr (.ops (Dy ops L) e σ E' σ1)/\∀ m,E'.get m=e1.get m
section
variable {qc:List (List Nat)} {ops:List AI} {e e1:Env} {σ σ1:St} {X:List (Nat × Nat)}
def A75(a b:Nat)(qD:a≠b)(h1:DR T pr qc ((a,b)::X) ops e σ e1 σ1)(h2:DR T pr qc ((b,a)::X) ops e σ e1 σ1):DR T pr qc X ops e σ e1 σ1:=fun L hL hX=>by
 rcases Bho (L:=L) qD with h | h
 .exact h1 L hL fun p hp=>by
   rcases Bo.1 hp with rfl | hp
   .exact h
   .exact hX p hp
 .exact h2 L hL fun p hp=>by
   rcases Bo.1 hp with rfl | hp
   .exact h
   .exact hX p hp
def N0(P:List Nat)(i:Nat):Nat:=P.idxOf i
def Af8(qc qh:List (List Nat))(X:List (Nat × Nat))(n:Nat)(P:List Nat):Bool:=
 P.length==n&&((List.range n).all fun i=>P[N0 P i]?==some i&&decide (N0 P i<n)&&((qh.getD (N0 P i) []).all fun d'=>((qc.getD i []).any fun d=>N0 P d==d')||X.any fun p=>p.2==i&&N0 P p.1==d'))
def Asx{P:List Nat}{ops qk:List AI}(ho:Dy ops P=qk)(qf:qk.length=P.length)(hP:∀ i∈P,i<ops.length):∀ L:List Nat,(∀ i∈L,P[N0 P i]?=some i)->Dy qk (L.map (N0 P))=Dy ops L
 | [],_=>rfl
 | i::L,h=>by
  have ih:=Asx ho qf hP L fun j hj=>h j (Db _ hj)
  have hi:=h i Cr
  have qM:∀ (P:List Nat) (k:Nat) (i:Nat),(∀ i∈P,i<ops.length)->P[k]?=some i->(Dy ops P)[k]?=ops[i]?:=by
   intro P
   induction P with
   | nil=>intro k i _ h;simp at h
   | cons p P ihP=>
    intro k i qq h;have hp:=qq p Cr
    have:Dy ops (p::P)=ops[p]::Dy ops P:=by
     unfold Dy;rw[Lo,Cd hp]
    rw[this]
    cases k with
    | zero=>simp at h;subst h;simp
    | succ k=>simp at h ⊢;exact ihP k i (fun j hj=>qq j (Db _ hj)) h
  have hk:=qM P (N0 P i) i hP hi;rw[ho]at hk;unfold Dy at ih ⊢;rw[A2,Lo,Lo,hk,ih]
def Avg(P:List Nat)(qh:List (List Nat))(qk:List AI)(ho:Dy ops P=qk)(qf:qk.length=ops.length)(hp:Af8 qc qh X ops.length P=true)(qp:O1 qh qk=true){e2:Env}(h:TG T pr qh qk.length 0 qk e σ [] [] e2 σ1)(he:∀ m,e2.get m=e1.get m):DR T pr qc X ops e σ e1 σ1:=by
 intro L hL hX;unfold Af8 at hp;simp only[Ak,beq_iff_eq,B6,Gw,decide_eq_true_eq,Og,Ph]at hp;obtain⟨jp,qF⟩:=hp
 have qX:∀ i j,i<ops.length->j<ops.length->N0 P i=N0 P j->i=j:=fun i j hi hj h=>by
  have a:=(qF i hi).1.1;have b:=(qF j hj).1.1;rw[h,b]at a;exact(Iu a).symm
 have jf:∀ L qd,LXt qc ops.length qd L->(∀ i∈qd,i<ops.length)->(∀ p∈X,Ye (qd.reverse++L) p.1 p.2)->LXt qh ops.length (qd.map (N0 P)) (L.map (N0 P))/\∀ i∈L,i<ops.length:=by
  intro L
  induction L with
  | nil=>
   intro qd hl _ _
   cases hl with
   | nil hl=>exact⟨.nil (by simpa using hl),by simp⟩
  | cons i L ih=>
   intro qd hl qq hB
   cases hl with
   | cons hi qo hd hl=>
    have qt:∀ j∈i::qd,j<ops.length:=fun j hj=>by
     rcases Bo.1 hj with rfl | hj
     .exact hi
     .exact qq j hj
    obtain⟨g1,g2⟩:=ih (i::qd) hl qt (by simpa using hB)
    refine⟨.cons (qF i hi).1.2 (fun hm=>?_) (fun d' jA=>?_) (by simpa using g1),fun j hj=>by
     rcases Bo.1 hj with rfl | hj
     .exact hi
     .exact g2 j hj⟩
    .obtain⟨j,hj,jE⟩:=Cs.1 hm;have:=qX j i (qq j hj) hi jE;subst this;exact qo hj
    .rcases(qF i hi).2 d' jA with⟨d,h1,h2⟩ | ⟨p,h1,h2,h3⟩
     .exact Cs.2 ⟨d,hd d h1,h2⟩
     .have:=hB p h1 qd.reverse L (by rw[h2]);exact Cs.2 ⟨p.1,by simpa using this,h3⟩
 obtain⟨g1,g2⟩:=jf L [] hL (fun i hi=>by cases hi) (by simpa using hX);rw[<-qf]at g1;obtain⟨E',h1,h2⟩:=A74 qp h g1;refine⟨E',?_,fun m=>(h2 m).trans (he m)⟩
 have qQ:∀ i∈P,i<ops.length:=by
  have qC:∀ i,i<ops.length->i∈P:=fun i hi=>F0 (qF i hi).1.1
  intro i hi;rcases Bb i ops.length with h | h
  .exact h
  .exfalso;have h1:=Acw ops.length (P.erase i) (fun j hj=>(List.mem_erase_of_ne AA).2 (qC j hj));rw[List.length_erase,if_pos hi,jp]at h1;have:=List.length_pos_of_mem hi;omega
 rw[Asx ho (by rw[qf,jp]) qQ L (fun i hi=>(qF i (g2 i hi)).1.1)]at h1;exact h1
def Bhp{kill:List Nat}{k:List It}{Q:Env->St->Prop}(qp:((qc.length==ops.length)&&(List.range ops.length).all fun j=>(qc.getD j []).all fun d=>decide (d<j))=true)(h:∃ e1 σ1,DR T pr qc [] ops e σ e1 σ1/\W T pr k (e1.del kill) σ1 Q):W T pr (.c (.drw kill qc ops)::k) e σ Q:=by
 obtain⟨e1,σ1,hd,e',σ',h2,q⟩:=h;simp only[Ak,beq_iff_eq,B6,Gw,decide_eq_true_eq]at qp
 have qM:∀ t,∃ E',Ev T pr (.ops (Dy ops (Qj qc t)) e σ E' σ1)/\∀ m,E'.get m=e1.get m:=fun t=>by
  refine hd _ ?_ (fun p hp=>by cases hp);unfold Qj;rw[Ai6];exact Aw8 qp.1 (fun j hj d hd=>qp.2 j hj d hd) qc.length t [] (by simp[qp.1]) V5 (fun i hi=>by cases hi)
 exact⟨e',σ',.cDrw (fun t=>(qM t).choose) (fun t=>(qM t).choose_spec.1) (fun t=>(qM t).choose_spec.2) h2,q⟩
end
/-! environments by their slots -/
def Aba(k:Nat)(v:V):Env->Env
 | []=>[(k,v)]
 | (m,u)::r=>if k<m then(k,v)::(m,u)::r else if k=m then(k,v)::r else(m,u)::Aba k v r
def Rg:Env->Env
 | []=>[]
 | (k,v)::r=>Aba k v (Rg r)
def Asy(k:Nat)(v:V)(n:Nat):∀ l:Env,(Aba k v l).get n=if k=n then v else l.get n
 | []=>by simp[Aba,Env.get]
 | (m,u)::r=>by
  have ih:=Asy k v n r;unfold Aba
  split
  .simp[Env.get]
  .split
   .rename_i h;subst h;simp only[Env.get]
    split<;>rfl
   .simp only[Env.get,ih]
    split
    .rename_i h1 h2 h3;subst h3;rw[if_neg h2]
    .rfl
def Ait(n:Nat):∀ e:Env,(Rg e).get n=e.get n
 | []=>rfl
 | (k,v)::r=>by
  rw[Rg,Asy,Ait n r];rfl
def A76{e e':Env}(h:Rg e=Rg e')(n:Nat):e.get n=e'.get n:=by rw[<-Ait n e,h,Ait]
def DE(E:Env)(S:St)(e:Env)(σ:St):Prop:=e=E/\σ=S
def DS(E:Env)(S:St)(e:Env)(σ:St):Prop:=Rg e=Rg E/\σ=S
def Bni{E:Env}{S:St}:DE E S E S:=⟨rfl,rfl⟩
def Bnj{E e:Env}{S σ:St}(h:Rg e=Rg E)(h':σ=S):DS E S e σ:=⟨h,h'⟩
def Bhq{qc:List (List Nat)}{ops:List AI}{kill:List Nat}{k:List It}{e:Env}{σ:St}{Q:Env->St->Prop}(a b:Nat)(P1 P2:List Nat)(d1 d2:List (List Nat)){E:Env}{S:St}
  (hp:((qc.length==ops.length)&&((List.range ops.length).all fun j=>(qc.getD j []).all fun d=>decide (d<j))&&(a==b)==false&&Af8 qc d1 [(a,b)] ops.length P1&&Af8 qc d2 [(b,a)] ops.length P2&&O1 d1 (Dy ops P1)&&O1 d2 (Dy ops P2)&&(Dy ops P1).length==ops.length&&(Dy ops P2).length==ops.length)=true)
  (h1:wg T pr d1 (Dy ops P1).length [] [] (DE E S) 0 (Dy ops P1) e σ [] [])
  (h2:wg T pr d2 (Dy ops P2).length [] [] (DS E S) 0 (Dy ops P2) e σ [] [])
  (h:WE T pr (E.del kill) k S Q):W T pr (.c (.drw kill qc ops)::k) e σ Q:=by
 simp only[Ak,beq_iff_eq]at hp;obtain⟨⟨⟨⟨⟨⟨⟨⟨jc,jd⟩,qD⟩,p1⟩,p2⟩,s1⟩,s2⟩,l1⟩,l2⟩:=hp
 have jg:∀ {e1:Env} {σ1:St} {P:Env->St->Prop},W T pr [] (e1.del []) σ1 P->P e1 σ1:=fun {e1 σ1 P} h=>by
  have hd:∀ e:Env,e.del []=e:=fun e=>by
   induction e with
   | nil=>rfl
   | cons p r ih=>obtain⟨m,v⟩:=p;simp only[Env.del,List.elem_nil,Hj,if_false,ih]
  rw[hd,Ax7]at h;exact h
 obtain⟨e1,σ1,t1,g1⟩:=Vb _ _ _ _ _ _ h1;obtain⟨rfl,rfl⟩:=jg g1;obtain⟨e2,σ2,t2,g3⟩:=Vb _ _ _ _ _ _ h2;obtain⟨g4,rfl⟩:=jg g3;refine Bhp ?_ ⟨_,_,A75 a b (by simpa using qD) (Avg P1 d1 _ rfl l1 p1 s1 t1 fun _=>rfl) (Avg P2 d2 _ rfl l2 p2 s2 t2 (A76 g4)),h⟩;simp only[Ak,beq_iff_eq];exact⟨jc,jd⟩
def GS(σ:St)(m e:Nat)(u:V)(xs:List (List V)):Prop:=
 ((∀ r∈xs,r.length=m)/\∀ r∈xs,r.all V.rowB=true)/\((u=.nils/\xs=[])\/∃ i g r q,u=.sl i g 0 xs.length m true/\σ[i]?=some (.row (xs.flatten++r) e g 0)/\r.length=q*m/\r.all V.rowB=true)
def Aar{σ:St}{m e:Nat}:GS σ m e .nils []:=⟨⟨by simp,by simp⟩,.inl ⟨rfl,rfl⟩⟩
def J7{σ:St}{m e:Nat}{u:V}{xs:List (List V)}(h:GS σ m e u xs):u.cellB=true:=by
 rcases h.2 with⟨rfl,-⟩ | ⟨i,g,r,q,rfl,-⟩<;>rfl
def Aas{σ:St}{m e:Nat}{u:V}{xs:List (List V)}(h:GS σ m e u xs):Mc u=some (iV (xs.length:Int)):=by
 rcases h.2 with⟨rfl,rfl⟩ | ⟨i,g,r,q,rfl,-⟩<;>rfl
def Cv{σ:St}{m e:Nat}{u:V}{xs:List (List V)}(h:GS σ m e u xs):∀ i∈u.refs,i<σ.length:=by
 rcases h.2 with⟨rfl,rfl⟩ | ⟨i,g,r,q,rfl,ho,-⟩
 .intro i hi;simp[V.refs]at hi
 .intro j hj;simp[V.refs]at hj;subst hj;exact(Al.1 ho).1
def Ig{σ τ:St}{m e:Nat}{u:V}{xs:List (List V)}(h:GS σ m e u xs)(hk:∀ i∈u.refs,τ[i]?=σ[i]?):GS τ m e u xs:=by
 refine⟨h.1,?_⟩;rcases h.2 with h2 | ⟨i,g,r,q,rfl,ho,h2⟩
 .exact .inl h2
 .exact .inr ⟨i,g,r,q,rfl,by rw[hk i AS];exact ho,h2⟩
def Pl{cs:List V}(h:cs.all V.rowB=true):Ah cs=[]:=Ff h
def W4{σ:St}{m e bytes:Nat}{u:V}{xs:List (List V)}{row:List V}(h:GS σ m e u xs)(hm:0<m)(qA:row.length=m)(qe:row.all V.rowB=true)(hb:(xs.length+1)*bytes<=140737488355328):
  ∃ u' σ',Dz bytes (m,e) u (.lst 1 [row]) σ=some (u',σ')/\GS σ' m e u' (xs++[row])/\σ.length<=σ'.length/\(∀ j,j<σ.length->j ∉ u.refs->σ'[j]?=σ[j]?)/\(∀ j∈u'.refs,j∈u.refs\/σ.length<=j)/\(Cl σ->Cl σ'):=by
 obtain⟨⟨hl,hr⟩,h⟩:=h;have qm:([row].all fun r=>r.length==m)=true:=by simp[qA]
 have qZ:∀ r∈xs++[row],r.length=m:=fun r hx=>by
  rcases Ch.1 hx with hx | hx
  .exact hl r hx
  .rw[D4.1 hx];exact qA
 have jb:∀ r∈xs++[row],r.all V.rowB=true:=fun r hx=>by
  rcases Ch.1 hx with hx | hx
  .exact hr r hx
  .rw[D4.1 hx];exact qe
 unfold Dz;simp only[Eu,Cy];unfold Jr;rw[if_pos ⟨qm,hm⟩];rcases h with⟨rfl,rfl⟩ | ⟨i,g,r,q,rfl,ho,hq,qu⟩
 .simp only;rw[if_pos (by simpa using hb),if_neg AE];refine⟨_,_,rfl,⟨⟨qZ,jb⟩,.inr ⟨σ.length,0,[],0,rfl,by simp,by simp,rfl⟩⟩,by simp,fun j hj _=>C3 hj,fun j hj=>?_,fun hc=>Jg hc ?_⟩
  .simp[V.refs]at hj;exact .inr AA
  .simp[Ob.refs,Pl qe]
 .have hi:i<σ.length:=(Al.1 ho).1;have hf:=Ga hl;have qS:(xs.flatten++r).length=xs.length*m+q*m:=by rw[Aq,hf,hq]
  simp only;rw[if_pos ⟨hb,trivial⟩];simp only[ho,if_true];rw[if_neg AE,if_pos ⟨trivial,trivial,trivial,Av _⟩];have qz:(xs.length+[row].length)*m=xs.length*m+m:=by rw[Hi,F1]
  by_cases h0:q=0
  .subst h0;have jq:r=[]:=M6.1 AA;subst jq;rw[if_neg (by rw[qS,qz];omega),if_pos (by rw[qS];omega)];refine⟨_,_,rfl,⟨⟨qZ,jb⟩,.inr ⟨i,g+1,[],0,by rw[Aq],?_,by simp,rfl⟩⟩,by simp,fun j hj hn=>?_,fun j hj=>.inl hj,fun hc=>Fi hc ?_⟩
   .rw[Bv hi];simp
   .have:i≠j:=fun h=>hn (by subst h;simp[V.refs])
    rw[Bk this]
   .simp only[Ob.refs,Bw];rw[Hn,Pl (Gl hr)];simp[Pl qe]
  .have jN:m<=q*m:=Nat.le_mul_of_pos_left m AA;rw[if_pos (by rw[qS,qz];omega),qz];have e1:(xs.flatten++r).take (xs.length*m)=xs.flatten:=by rw[<-hf,Ua]
   have e2:(xs.flatten++r).drop (xs.length*m+m)=r.drop m:=by rw[<-hf,Yl,Dt AA,Ci,Ahb]
   rw[e1,e2];have jt:(r.drop m).all V.rowB=true:=B6.2 fun c hc=>B6.1 qu c (Vz hc)
   refine⟨_,_,rfl,⟨⟨qZ,jb⟩,.inr ⟨i,g,r.drop m,q - 1,by rw[Aq],?_,?_,jt⟩⟩,by simp,fun j hj hn=>?_,fun j hj=>.inl hj,fun hc=>Fi hc ?_⟩
   .rw[Bv hi];simp
   .rw[E3,hq,Nat.sub_mul,Nat.one_mul]
   .have:i≠j:=fun h=>hn (by subst h;simp[V.refs])
    rw[Bk this]
   .simp only[Ob.refs];rw[Hn,Hn,Pl (Gl hr),Pl jt];simp[Pl qe]
def Bcw(n d:Nat):Du (some (iV (n:Int))) d=some n:=by
 unfold Du;simp
def Aw9{σ:St}{m e:Nat}{u:V}{xs:List (List V)}{row:List V}(h:GS σ m e u (xs++[row])):∃ u',Hf m u none (some (iV (xs.length:Int))) none=some u'/\GS σ m e u' xs/\u'.refs=u.refs:=by
 obtain⟨⟨hl,hr⟩,h⟩:=h;rcases h with⟨-,h⟩ | ⟨i,g,r,q,rfl,ho,hq,qu⟩
 .simp at h
 .refine⟨.sl i g 0 xs.length m true,?_,⟨⟨fun r hx=>hl r (Rw _ hx),fun r hx=>hr r (Rw _ hx)⟩,.inr ⟨i,g,row++r,q+1,rfl,?_,?_,?_⟩⟩,rfl⟩
  .simp only[Hf,Bcw,Du];simp
  .rw[ho];simp
  .rw[Aq,hq,hl row AE,F1,Acm]
  .rw[Ace,hr row AE,qu];rfl
def Bhr{σ:St}{m e:Nat}{u:V}{xs:List (List V)}{row:List V}{i:Nat}(h:GS σ m e u xs)(hi:xs[i]?=some row):∃ j g cs,u=.sl j g 0 xs.length m true/\σ[j]?=some (.row cs e g 0)/\i*m+m<=cs.length/\(cs.drop (i*m)).take m=row:=by
 obtain⟨⟨hl,hr⟩,h⟩:=h;have jj:=(Al.1 hi).1;rcases h with⟨-,rfl⟩ | ⟨j,g,r,q,rfl,ho,hq,qu⟩
 .simp at hi
 .have hf:=Ga hl;have jM:i*m+m<=xs.length*m:=by rw[<-F1];exact Fl m jj
  refine⟨j,g,_,rfl,ho,by rw[Aq,hf];omega,?_⟩
  have hs:xs=xs.take i++row::xs.drop (i+1):=by
   have h1:=Gr jj;rw[(Al.1 hi).2]at h1;rw[<-h1,Ja]
  have ht:(xs.take i).flatten.length=i*m:=by
   rw[Ga fun r hr=>hl r (Jz hr),D5,Ym AA]
  have qA:=hl row (F0 hi)
  conv=>lhs;rw[hs]
  rw[Yg,Fe,Dk,Dk,<-ht,List.drop_left,<-qA,Ua]
def Amk{σ:St}{m e:Nat}{u:V}{xs:List (List V)}(h:GS σ m e u xs)(hm:0<m):∃ z,OC σ u (SL z 0 xs):=by
 obtain⟨⟨hl,hr⟩,h⟩:=h;rcases h with⟨rfl,rfl⟩ | ⟨i,g,r,q,rfl,ho,hq,qu⟩
 .exact⟨true,Em rfl⟩
 .refine⟨false,fun js hj d=>?_⟩
  have hi:js.elem i=true:=by
   have:=hj i AS;simpa using this
  have hf:=Ga hl;unfold Fh;rw[if_neg AQ];simp only[hi,if_true,ho];rw[if_pos ⟨trivial,hm,by rw[Aq,hf];omega⟩,Jd,<-hf,Ua,Ut fun c hc=>?_]
  .simp only[Is,Ue hl];rfl
  .obtain⟨r,jG,jy⟩:=List.mem_flatten.1 hc;exact Ud (B6.1 (hr r jG) c jy)
def Bhs(a b c cells:List V)(h:c.length=cells.length):Pw (a++(c++b)) a.length cells=some (a++(cells++b)):=by
 unfold Pw;rw[if_pos (by simp only[Aq];omega),Ua,<-Dk a c b,Yl];rw[Dt (by simp only[Aq];omega),Ci,Aq,<-h];simp
def Bht{σ:St}{m e:Nat}{u:V}{xs:List (List V)}{r0 row:List V}(h:GS σ m e u (xs++[r0]))(qA:row.length=m)(qe:row.all V.rowB=true):∃ j g cs',u=.sl j g 0 (xs.length+1) m true/\j<σ.length/\(∀ τ:St,τ[j]?=σ[j]?->Q3 τ m (.ptr j g (0+xs.length*m)) (.agg row)=some (τ.set j (.row cs' e g 0))/\(j<τ.length->GS (τ.set j (.row cs' e g 0)) m e u (xs++[row])))/\Ah cs'=[]:=by
 obtain⟨⟨hl,hr⟩,h⟩:=h;rcases h with⟨-,h⟩ | ⟨j,g,r,q,rfl,ho,hq,qu⟩
 .simp at h
 .have hf:=Ga fun r hx=>hl r (Rw _ hx)
  have jq:=hl r0 AE;have hx:xs.flatten.all V.rowB=true:=Gl fun r hx=>hr r (Rw _ hx)
  have qH:row.all V.cellB=true:=U1 qe;have jz:(V.agg row).cells=row:=rfl;refine⟨j,g,xs.flatten++(row++r),by simp,(Al.1 ho).1,fun τ hk=>⟨?_,fun hj=>⟨⟨fun r hx=>?_,fun r hx=>?_⟩,.inr ⟨j,g,r,q,by simp,?_,hq,qu⟩⟩⟩,?_⟩
  .simp only[Q3,hk,ho,jz];rw[if_pos ⟨trivial,Av _,qA,qH⟩,F9,<-hf];have:(xs++[r0]).flatten++r=xs.flatten++(r0++r):=by simp
   rw[this,Bhs _ _ _ _ AA];rfl
  .rcases Ch.1 hx with hx | hx
   .exact hl r (Rw _ hx)
   .rw[D4.1 hx];exact qA
  .rcases Ch.1 hx with hx | hx
   .exact hr r (Rw _ hx)
   .rw[D4.1 hx];exact qe
  .rw[Bv hj];simp
  .rw[Hn,Hn,Pl hx,Pl qe,Pl qu];rfl
/-! what a struct and its lists may change -/
def fp(σ:St)(w:Nat):List Nat:=w::match σ[w]? with
 | some ob=>ob.refs
 | none=>[]
def Ale{σ:St}{w:Nat}{cs:List V}{t g z:Nat}(h:σ[w]?=some (.row cs t g z)):fp σ w=w::Ah cs:=by
 unfold fp;rw[h];rfl
def FW(w:Nat)(σ τ:St):Prop:=σ.length<=τ.length/\(∀ j,j<σ.length->j ∉ fp σ w->τ[j]?=σ[j]?)/\(∀ j∈fp τ w,j∈fp σ w\/σ.length<=j)
def Ael(w:Nat)(σ:St):FW w σ σ:=⟨An _,fun _ _ _=>rfl,fun _ h=>.inl h⟩
def F4{w:Nat}{σ τ υ:St}(h:FW w σ τ)(h':FW w τ υ):FW w σ υ:=by
 refine⟨Dc h.1 h'.1,fun j hj hn=>?_,fun j hj=>?_⟩
 .rw[h'.2.1 j (by have:=h.1;omega) fun hm=>?_,h.2.1 j hj hn];rcases h.2.2 j hm with h2 | h2
  .exact hn h2
  .omega
 .rcases h'.2.2 j hj with h2 | h2
  .exact h.2.2 j h2
  .exact .inr (by have:=h.1;omega)
def Aem{w:Nat}{σ:St}(l:St)(hw:w<σ.length):FW w σ (σ++l):=by
 refine⟨by simp,fun j hj _=>C3 hj,fun j hj=>?_⟩;unfold fp at hj ⊢;rw[C3 hw]at hj;exact .inl hj
def Axa{w:Nat}{σ τ:St}{j:Nat}{x:Ob}(h:FW w σ τ)(hj:σ.length<=j)(hw:w<σ.length):FW w σ (τ.set j x):=by
 refine⟨by simpa using h.1,fun i hi hn=>?_,fun i hi=>?_⟩
 .rw[Bk AA];exact h.2.1 i hi hn
 .unfold fp at hi;rw[Bk AA]at hi;exact h.2.2 i hi
def Alf{w:Nat}{σ τ:St}{cs:List V}{t g z:Nat}(h:FW w σ τ)(hw:w<σ.length)(hc:∀ j∈Ah cs,j∈fp σ w\/σ.length<=j):FW w σ (τ.set w (.row cs t g z)):=by
 have hm:w∈fp σ w:=by unfold fp;exact Cr
 refine⟨by simpa using h.1,fun i hi hn=>?_,fun i hi=>?_⟩
 .rw[Bk (fun e=>hn (by rw[<-e];exact hm))];exact h.2.1 i hi hn
 .rw[Ale (Bv (by have:=h.1;omega))]at hi;rcases Bo.1 hi with rfl | hi
  .exact .inl hm
  .exact hc i hi
def Axb{w:Nat}{σ τ υ:St}{B:List Nat}(h:FW w σ τ)(hw:w<σ.length)(hl:τ.length<=υ.length)(hB:∀ j∈B,j∈fp σ w\/σ.length<=j)(hk:∀ j,j<τ.length->j ∉ B->υ[j]?=τ[j]?)(jH:w ∉ B):FW w σ υ:=by
 refine⟨Dc h.1 hl,fun i hi hn=>?_,fun i hi=>?_⟩
 .rw[hk i (by have:=h.1;omega) fun hm=>?_,h.2.1 i hi hn];rcases hB i hm with h2 | h2
  .exact hn h2
  .omega
 .unfold fp at hi;rw[hk w (by have:=h.1;omega) jH]at hi;exact h.2.2 i hi
def By{α:Type}(p:α->Bool):List α->Int
 | [] => -1
 | a::l=>if p a then 0 else if By p l<0 then -1 else By p l+1
def Aen{α:Type}(p:α->Bool):∀ l:List α,-1<=By p l/\By p l<l.length
 | []=>by simp[By]
 | a::l=>by
  have:=Aen p l;simp only[By,Bg]
  split
  .omega
  .split<;>omega
def Aeo{α:Type}{p:α->Bool}:∀ {l:List α} {i:Nat} {a:α},(∀ b∈l.take i,p b=false)->l[i]?=some a->p a=true->By p l=i
 | [],i,a,_,h,_=>by simp at h
 | b::l,0,a,_,h,hp=>by
  simp at h;subst h;simp[By,hp]
 | b::l,i+1,a,hn,h,hp=>by
  have h1:=Aeo (l:=l) (i:=i) (a:=a) (fun c hc=>hn c (by simp[hc])) (by simpa using h) hp;have h2:=hn b AE;simp only[By,h2,h1];simp;omega
def Ads{α:Type}{p:α->Bool}:∀ {l:List α},(∀ b∈l,p b=false)->By p l = -1
 | [],_=>rfl
 | b::l,h=>by
  simp only[By,h b AE,Ads (l:=l) fun c hc=>h c (by simp[hc])];simp
def Aep{α:Type}{p:α->Bool}{l:List α}(h:0<=By p l):∃ (i:Nat) (a:α),By p l=i/\l[i]?=some a/\i<l.length:=by
 have h2:=(Aen p l).2;obtain⟨i,hi⟩:∃ i:Nat,By p l=i:=⟨(By p l).toNat,by omega⟩;exact⟨i,l[i]' AA,hi,Cd AA,by omega⟩
def Aiu{α:Type}{p:α->Bool}{l:List α}{i:Nat}{a:α}(h:∀ b∈l.take i,p b=false)(ha:l[i]?=some a)(hp:p a=false):∀ b∈l.take (i+1),p b=false:=by
 intro b hb;rw[Aho,ha]at hb;rcases Ch.1 hb with hb | hb
 .exact h b hb
 .simp at hb;rw[hb];exact hp
def Xi(z:Bool)(t:Nat)(l:List (List UInt8))(s:List UInt8)(hl:l.length<=9223372036854775806):Fn TT PT 125 [SL z t (l.map fun x=>[V.str x]),.str s] (iV (By (·==s) l)):=by
 have n1:(l.map fun x=>[V.str x]).length=l.length:=Aj ..;refine Bc T125 rfl ?_;simp only[go_sem];refine Bh (α:=Nat) (fun i=>l.length - i) (fun i=>[(0,SL z t (l.map fun x=>[V.str x])),(1,.str s),(5,iV (i:Int))]) (fun _=>[]) (fun i=>i<=l.length/\∀ b∈l.take i,(b==s)=false) ?_ 0 ⟨Av _,by simp⟩;rintro i ⟨hi,hc⟩ ih;refine Az Bgo ?_;rcases Bb i l.length with h' | h'
 .obtain⟨x,hx,-,-⟩:=Bl h';cases hp:(x==s)
  .simp only[go_sem,n1,Ar h',Ai,hx,hp,Ay (show i<9223372036854775807 by omega)];exact Am (ih (i+1) AA ⟨h',Aiu hc hx hp⟩) rfl
  .rw[Aeo hc hx hp];simp only[go_sem,n1,Ar h',Ai,hx,hp];exact Ae rfl rfl
 .rw[I9 h']at hc;rw[Ads hc];simp only[go_sem,n1,Bi h'];exact Ae rfl rfl
def Xj(z:Bool)(t:Nat)(l:List Dp)(s:List UInt8)(hl:l.length<=9223372036854775806):Fn TT PT 123 [SL z t (l.map Dp.row),.str s] (iV (By (fun d:Dp=>d.nm==s) l)):=by
 have n1:(l.map Dp.row).length=l.length:=Aj ..;refine Bc T123 rfl ?_;simp only[go_sem];refine Bh (α:=Nat) (fun i=>l.length - i) (fun i=>[(0,SL z t (l.map Dp.row)),(1,.str s),(5,iV (i:Int))]) (fun _=>[]) (fun i=>i<=l.length/\∀ b∈l.take i,(b.nm==s)=false) ?_ 0 ⟨Av _,by simp⟩;rintro i ⟨hi,hc⟩ ih;refine Az Bgm ?_;rcases Bb i l.length with h' | h'
 .obtain⟨x,hx,-,-⟩:=Bl h';have qe:x.row=[iV x.kind,iV x.line,.str x.nm,iV x.size,iV x.init,.str x.on]:=rfl;cases hp:(x.nm==s)
  .simp only[go_sem,n1,Ar h',Ai,hx,qe,hp,Ay (show i<9223372036854775807 by omega)];exact Am (ih (i+1) AA ⟨h',Aiu (p:=fun d:Dp=>d.nm==s) hc hx hp⟩) rfl
  .rw[Aeo (p:=fun d:Dp=>d.nm==s) hc hx hp];simp only[go_sem,n1,Ar h',Ai,hx,qe,hp];exact Ae rfl rfl
 .rw[I9 h']at hc;rw[Ads hc];simp only[go_sem,n1,Bi h'];exact Ae rfl rfl
def Afj(z:Bool)(t:Nat)(l:List Tp)(s:List UInt8)(hl:l.length<=9223372036854775806):Fn TT PT 124 [SL z t (l.map Tp.row),.str s] (iV (By (fun d:Tp=>d.nm==s) l)):=by
 have n1:(l.map Tp.row).length=l.length:=Aj ..;refine Bc T124 rfl ?_;simp only[go_sem];refine Bh (α:=Nat) (fun i=>l.length - i) (fun i=>[(0,SL z t (l.map Tp.row)),(1,.str s),(5,iV (i:Int))]) (fun _=>[]) (fun i=>i<=l.length/\∀ b∈l.take i,(b.nm==s)=false) ?_ 0 ⟨Av _,by simp⟩;rintro i ⟨hi,hc⟩ ih;refine Az Bgn ?_;rcases Bb i l.length with h' | h'
 .obtain⟨x,hx,-,-⟩:=Bl h';have qe:x.row=(tR x):=rfl;cases hp:(x.nm==s)
  .simp only[go_sem,n1,Ar h',Ai,hx,qe,hp,Ay (show i<9223372036854775807 by omega)];exact Am (ih (i+1) AA ⟨h',Aiu (p:=fun d:Tp=>d.nm==s) hc hx hp⟩) rfl
  .rw[Aeo (p:=fun d:Tp=>d.nm==s) hc hx hp];simp only[go_sem,n1,Ar h',Ai,hx,qe,hp];exact Ae rfl rfl
 .rw[I9 h']at hc;rw[Ads hc];simp only[go_sem,n1,Bi h'];exact Ae rfl rfl
structure LnG (p:Gp):Prop where
 d:p.decls.length<=1000000000
 t:p.thrs.length<=1000000000
 l:∀ t∈p.thrs,t.locals.length<=1000000000
def Axc{α:Type}{p:α->Bool}{l:List α}(h:¬ 0<=By p l):By p l = -1:=by
 have:=Aen p l;omega
def Af9(x:Gp):x.row.all V.rowB=true:=by
 unfold Gp.row;simp only[Bp,Ce,G8];rfl
def Bcx{a b:V}(h:[a,b].all V.rowB=true):a.cellB=true/\b.cellB=true:=by
 have h:=U1 h;simp only[Bp,Ce,Yn,Ak]at h;exact h
def Vi(x:Gp):x.row=(gR x):=rfl
def Oy{R:V->Prop}{f p:Nat}{res:List AR}{body:AC}{vs:List V}(hT:TT f=some ⟨p,res,false,body,none⟩)(hl:vs.length=p)(h:W TT PT [.c body] (C6 0 vs) [] (Hd fun e' σ1=>∃ v,Ca e' σ1 res=some v/\(Cb v=true/\v.refs=[]/\D8 [] v=some v)/\R v)):∃ v,Fn TT PT f vs v/\R v:=by
 obtain⟨e',σ',hE,v,hr,h1,h2⟩:=h;exact⟨v,Arl hT rfl rfl hl ⟨e',σ',hE,v,hr,h1⟩,h2⟩
set_option maxHeartbeats 1000000 in
def Bcy{p:Gp}(hp:LnG p)(th:Int)(s:List UInt8):∃ v,Fn TT PT 192 [.agg p.row,iV th,.str s] v/\∃ k:Int,v=iV k/\(k=5->0<=By (fun d:Dp=>d.nm==s) p.decls):=by
 obtain⟨dz,dt,decls,tz,tt,thrs⟩:=p;obtain⟨h1,h2,h3⟩:=hp;simp only at h1 h2 h3 ⊢;unfold Gp.row;simp only;have n1:(decls.map Dp.row).length=decls.length:=Aj ..;have n2:(thrs.map Tp.row).length=thrs.length:=Aj ..;have hd:=Xj dz dt decls s AA;have ht:=Afj tz tt thrs s AA;refine Oy T192 rfl ?_;refine Ge (fun e σ=>e=[(1,iV th),(2,.str s),(3,.ptr 0 0 0)]/\σ=[.row [SL dz dt (decls.map Dp.row),SL tz tt (thrs.map Tp.row)] 29 0 0]) (fun k' hk=>?_) ?_
 .simp only[go_sem];exact hk _ _ ⟨rfl,rfl⟩
 rintro e σ ⟨rfl,rfl⟩;refine Ge (fun e σ=>e=[(2,.str s),(3,.ptr 0 0 0)]/\σ=[.row [SL dz dt (decls.map Dp.row),SL tz tt (thrs.map Tp.row)] 29 0 0]) (fun k' hk=>?_) ?_
 .by_cases c1:0<=th
  .have f1:((0:Int)<=th)=True:=eq_true c1;by_cases c2:th<thrs.length
   .obtain⟨i,rfl⟩:∃ i:Nat,th=i:=⟨th.toNat,by omega⟩;have f2:((i:Int)<(thrs.length:Int))=True:=eq_true c2;obtain⟨x,hx,-,hm⟩:=Bl (l:=thrs) (i:=i) AA;have qe:x.row=(tR x):=rfl;have ha:=Xi x.lz x.lt x.locals s (by have:=h3 x hm;omega);simp only[go_sem,f1,f2,n2,Ai,hx,qe,ge_iff_le];refine Ab ha AB ?_;by_cases c3:0<=By (·==s) x.locals
    .have f3:(0<=By (·==s) x.locals)=True:=eq_true c3;simp only[go_sem,f3,ge_iff_le];exact⟨_,rfl,⟨rfl,rfl,rfl⟩,8,rfl,by omega⟩
    .have f3:(0<=By (·==s) x.locals)=False:=eq_false c3;simp only[go_sem,f3,ge_iff_le];exact hk _ _ ⟨rfl,rfl⟩
   .have f2:(th<(thrs.length:Int))=False:=eq_false c2;simp only[go_sem,f1,f2,n2,ge_iff_le];exact hk _ _ ⟨rfl,rfl⟩
  .have f1:((0:Int)<=th)=False:=eq_false c1;simp only[go_sem,f1,ge_iff_le];exact hk _ _ ⟨rfl,rfl⟩
 rintro e σ ⟨rfl,rfl⟩;by_cases c:0<=By (fun d:Dp=>d.nm==s) decls
 .obtain⟨i,x,e,hx,hi⟩:=Aep c;rw[e]at hd;have f1:((i:Int)<0)=False:=eq_false AA;have qe:x.row=[iV x.kind,iV x.line,.str x.nm,iV x.size,iV x.init,.str x.on]:=rfl;simp only[go_sem];refine Ab hd AB ?_;by_cases k1:x.kind=1
  .have q1:(x.kind==1)=true:=by simp[k1]
   cases q5:(x.size==0)
   .simp only[go_sem,f1,Ai,hx,qe,q1,q5,bne,Bd];exact⟨_,rfl,⟨rfl,rfl,rfl⟩,2,rfl,by omega⟩
   .simp only[go_sem,f1,Ai,hx,qe,q1,q5,bne,Ba];exact⟨_,rfl,⟨rfl,rfl,rfl⟩,1,rfl,by omega⟩
  have q1:(x.kind==1)=false:=by simp[k1]
  cases q2:(x.kind==2);rotate_left
  .simp only[go_sem,f1,Ai,hx,qe,q1,q2];exact⟨_,rfl,⟨rfl,rfl,rfl⟩,1,rfl,by omega⟩
  cases q3:(x.kind==3);rotate_left
  .simp only[go_sem,f1,Ai,hx,qe,q1,q2,q3];exact⟨_,rfl,⟨rfl,rfl,rfl⟩,_,rfl,fun _=>c⟩
  cases q4:(x.kind==4);rotate_left
  .simp only[go_sem,f1,Ai,hx,qe,q1,q2,q3,q4];exact⟨_,rfl,⟨rfl,rfl,rfl⟩,_,rfl,fun _=>c⟩
  cases q5:(x.kind==5);rotate_left
  .simp only[go_sem,f1,Ai,hx,qe,q1,q2,q3,q4,q5];exact⟨_,rfl,⟨rfl,rfl,rfl⟩,_,rfl,fun _=>c⟩
  cases q6:(x.kind==6)
  .simp only[go_sem,f1,Ai,hx,qe,q1,q2,q3,q4,q5,q6];exact⟨_,rfl,⟨rfl,rfl,rfl⟩,_,rfl,fun _=>c⟩
  .simp only[go_sem,f1,Ai,hx,qe,q1,q2,q3,q4,q5,q6];exact⟨_,rfl,⟨rfl,rfl,rfl⟩,_,rfl,fun _=>c⟩
 .rw[Axc c]at hd;simp only[go_sem];refine Ab hd AB ?_;simp only[go_sem,Int.reduceLT,Int.reduceNeg];refine Ab ht AB ?_;by_cases c3:0<=By (fun d:Tp=>d.nm==s) thrs
  .have f3:(0<=By (fun d:Tp=>d.nm==s) thrs)=True:=eq_true c3;simp only[go_sem,f3,ge_iff_le];exact⟨_,rfl,⟨rfl,rfl,rfl⟩,7,rfl,by omega⟩
  .have f3:(0<=By (fun d:Tp=>d.nm==s) thrs)=False:=eq_false c3;simp only[go_sem,f3,ge_iff_le];exact⟨_,rfl,⟨rfl,rfl,rfl⟩,0,rfl,by omega⟩
def Ou{p:Gp}(hp:LnG p)(th:Int)(s:List UInt8)(a b:Int):∃ v,Fn TT PT 161 [.agg p.row,iV th,.str s,iV a,iV b] v/\∃ e:Int,v=iV e/\(a=5->b=5->e=0->0<=By (fun d:Dp=>d.nm==s) p.decls):=by
 obtain⟨_,hk,k,rfl,h5⟩:=Bcy hp th s;rw[Vi]at hk ⊢;refine Oy T161 rfl ?_;simp only[go_sem];refine Ab hk AB ?_;by_cases k0:k=0
 .have q0:(k==0)=true:=by simp[k0]
  simp only[go_sem,q0];exact⟨_,rfl,⟨rfl,rfl,rfl⟩,5,rfl,by omega⟩
 have q0:(k==0)=false:=by simp[k0]
 by_cases ka:k=a
 .have qa:(k==a)=true:=by simp[ka]
  simp only[go_sem,q0,qa,bne,Ba];exact⟨_,rfl,⟨rfl,rfl,rfl⟩,0,rfl,fun e _ _=>h5 AA⟩
 have qa:(k==a)=false:=by simp[ka]
 by_cases kb:k=b
 .have qb:(k==b)=true:=by simp[kb]
  simp only[go_sem,q0,qa,qb,bne,Ba,Bd];exact⟨_,rfl,⟨rfl,rfl,rfl⟩,0,rfl,fun _ e _=>h5 AA⟩
 have qb:(k==b)=false:=by simp[kb]
 simp only[go_sem,q0,qa,qb,bne,Ba,Bd];exact⟨_,rfl,⟨rfl,rfl,rfl⟩,6,rfl,by omega⟩
def Asz:∀ (N:Nat) (x:Xp),C5 x.row<=N->N<=1000000000->∃ v,Fn TT PT 193 [.agg x.row] v/\∃ n d:Int,v=.tup [iV n,iV d]
 | 0,x,h,_=>by rw[Ha]at h;omega
 | N+1,x,h,hN=>by
  have h1:=Ha x;have h2:=Lr (f:=Xp.row) (fun x=>by rw[Ha];omega) x.l;have qf:(x.l.map Xp.row).length=x.l.length:=Aj ..;have hx:=D0 x;rw[Bj]at hx ⊢;refine Oy T193 rfl ?_;simp only[go_sem];refine Bh (α:=Nat × Int × Int) (fun a=>x.l.length - a.1) (fun a=>[(1,.ptr 0 0 0),(4,iV a.2.1),(5,iV a.2.2),(6,iV (a.1:Int))]) (fun _=>[xO x]) (fun a=>a.1<=x.l.length) ?_ (0,1,0) (Av _);rintro⟨i,n,d⟩ hi ih;simp only at hi ih;refine Az Bgu ?_;rcases Bb i x.l.length with h' | h'
  .obtain⟨y,hy,-,hm⟩:=Bl h';have hb:=J5 (f:=Xp.row) hm;obtain⟨_,hf,n',d',rfl⟩:=Asz N y AA AA;have je:=D0 y;have qL:=Bj y;rw[qL]at hf je;simp only[go_sem,qf,Ar h',Ai,hy,qL];refine Ab hf AB ?_;simp only[go_sem,Ay (show i<9223372036854775807 by omega)];exact Am (ih (i+1,IntKind.i64.wrap (n+n'),max d d') AJ h') rfl
  .simp only[go_sem,qf,Bi h'];exact⟨_,rfl,⟨rfl,rfl,rfl⟩,_,_,rfl⟩
def As0{p:Gp}(hp:LnG p)(th:Int):∀ (N:Nat) (x:Xp),C5 x.row<=N->N<=1000000000->∃ v,Fn TT PT 194 [.agg p.row,iV th,.agg x.row] v/\∃ r:Int,v=iV r
 | 0,x,h,_=>by rw[Ha]at h;omega
 | N+1,x,h,hN=>by
  have h1:=Ha x;have h2:=Lr (f:=Xp.row) (fun x=>by rw[Ha];omega) x.l;have qf:(x.l.map Xp.row).length=x.l.length:=Aj ..;have hx:=D0 x;have ih:∀ y∈x.l,∃ v,Fn TT PT 194 [.agg p.row,iV th,.agg y.row] v/\∃ r:Int,v=iV r:=fun y hy=>As0 hp th N y (by have:=J5 (f:=Xp.row) hy;omega) AA
  obtain⟨_,w1,r1,rfl,-⟩:=Ou hp th x.nm 8 1;obtain⟨_,w2,r2,rfl,-⟩:=Ou hp th x.nm 2 2;rw[Bj]at hx ⊢;have ja:=Af9 p;rw[Vi]at ih w1 w2 ja ⊢;refine Oy T194 rfl ?_;refine Ge (fun e σ=>e=[(1,iV th),(3,.ptr 0 0 0),(5,.ptr 1 0 0)]/\σ=[gO p,xO x]) (fun k' hk=>?_) ?_
  .simp only[go_sem];exact hk _ _ ⟨rfl,rfl⟩
  rintro e σ ⟨rfl,rfl⟩;refine Ge (fun e σ=>e=[(1,iV th),(3,.ptr 0 0 0),(5,.ptr 1 0 0),(7,iV 0)]/\σ=[gO p,xO x]) (fun k' hk=>?_) ?_
  .simp only[go_sem];exact hk _ _ ⟨rfl,rfl⟩
  rintro e σ ⟨rfl,rfl⟩;refine Ge (fun e σ=>∃ (r:Int) (X:V),(e=[(1,iV th),(3,.ptr 0 0 0),(5,.ptr 1 0 0),(7,iV r)]\/e=[(1,iV th),(3,.ptr 0 0 0),(5,.ptr 1 0 0),(7,iV r),(10,X)])/\σ=[gO p,xO x]) (fun k' hk=>?_) ?_
  .by_cases o2:x.op=2
   .have q2:(x.op==2)=true:=by simp[o2]
    simp only[go_sem,q2];refine Ab w1 AB ?_;simp only[go_sem];exact hk _ _ ⟨_,_,.inr rfl,rfl⟩
   have q2:(x.op==2)=false:=by simp[o2]
   by_cases o3:x.op=3
   .have q3:(x.op==3)=true:=by simp[o3]
    simp only[go_sem,q2,q3];refine Ab w2 AB ?_;simp only[go_sem];exact hk _ _ ⟨_,.und,.inl rfl,rfl⟩
   have q3:(x.op==3)=false:=by simp[o3]
   simp only[go_sem,q2,q3];exact hk _ _ ⟨_,.und,.inl rfl,rfl⟩
  rintro e σ ⟨r,X,he,rfl⟩;rcases he with rfl | rfl
  all_goals
   simp only[go_sem];refine Bh (α:=Nat × Int) (fun a=>x.l.length - a.1) (fun a=>[(1,iV th),(3,.ptr 0 0 0),(5,.ptr 1 0 0),(7,iV a.2),(8,iV (a.1:Int))]) (fun _=>[gO p,xO x]) (fun a=>a.1<=x.l.length) ?_ (0,r) (Av _);rintro⟨i,r⟩ hi jh;simp only at hi jh;refine Az Bgv ?_;rcases Bb i x.l.length with h' | h'
   .cases r0:(r==0)
    .simp only[go_sem,qf,Ar h',r0];exact⟨_,rfl,⟨rfl,rfl,rfl⟩,_,rfl⟩
    .obtain⟨y,hy,-,hm⟩:=Bl h';obtain⟨_,hf,r',rfl⟩:=ih y hm;have je:=D0 y;have qL:=Bj y;rw[qL]at hf je;simp only[go_sem,qf,Ar h',r0];refine Ad AD ?_;simp only[go_sem,qf,Ai,hy,qL];refine Ax hf AB ?_;simp only[go_sem,Ay (show i<9223372036854775807 by omega)];exact Am (jh (i+1,r') AJ h') rfl
   .simp only[go_sem,qf,Bi h'];exact⟨_,rfl,⟨rfl,rfl,rfl⟩,_,rfl⟩
def As1{p:Gp}(hp:LnG p)(th:Int)(x:Xp)(h:C5 x.row<=1000000000):∃ v,Fn TT PT 162 [.agg p.row,iV th,.agg x.row] v/\∃ r:Int,v=iV r:=by
 have hs:=Afi _ x h (An _);obtain⟨_,hn,n,d,rfl⟩:=Asz _ x h (An _);obtain⟨_,hm,r,rfl⟩:=As0 hp th _ x h (An _);have hx:=D0 x;have ja:=Af9 p;rw[Bj]at hx hs hn hm ⊢;rw[Vi]at hm ja ⊢;refine Oy T162 rfl ?_;cases b:Hy x
 .rw[b]at hs;simp only[go_sem];refine Ab hs AB ?_;simp only[go_sem,Bd];exact⟨_,rfl,⟨rfl,rfl,rfl⟩,_,rfl⟩
 rw[b]at hs;simp only[go_sem];refine Ab hs AB ?_;simp only[go_sem,Ba];refine Ab hn AB ?_;by_cases c1:24<n
 .have f1:((24:Int)<n)=True:=eq_true c1;simp only[go_sem,gt_iff_lt,f1];exact⟨_,rfl,⟨rfl,rfl,rfl⟩,_,rfl⟩
 have f1:((24:Int)<n)=False:=eq_false c1;by_cases c2:6<d
 .have f2:((6:Int)<d)=True:=eq_true c2;simp only[go_sem,gt_iff_lt,f1,f2];exact⟨_,rfl,⟨rfl,rfl,rfl⟩,_,rfl⟩
 have f2:((6:Int)<d)=False:=eq_false c2;simp only[go_sem,gt_iff_lt,f1,f2];refine Ab hm AB ?_;simp only[go_sem];exact⟨_,rfl,⟨rfl,rfl,rfl⟩,_,rfl⟩
def Hs(b:Bool):∃ v,Fn TT PT 163 [.bool b] v/\∃ r:Int,v=iV r:=by
 refine Oy T163 rfl ?_;cases b
 .simp only[go_sem];exact⟨_,rfl,⟨rfl,rfl,rfl⟩,_,rfl⟩
 .simp only[go_sem];exact⟨_,rfl,⟨rfl,rfl,rfl⟩,_,rfl⟩
def Hb(a b:Int):∃ v,Fn TT PT 160 [iV a,iV b] v/\∃ r:Int,v=iV r:=by
 refine Oy T160 rfl ?_;cases h:(a==0)
 .simp only[go_sem,bne,h,Bd];exact⟨_,rfl,⟨rfl,rfl,rfl⟩,_,rfl⟩
 .simp only[go_sem,bne,h,Ba];exact⟨_,rfl,⟨rfl,rfl,rfl⟩,_,rfl⟩
def Ajf:∀ (N:Nat) (z:Bool) (t:Nat) (l:List Sp),Cz (l.map Sp.row)<=N->N<=1000000000->∃ v,Fn TT PT 78 [SL z t (l.map Sp.row)] v/\∃ n:Int,v=iV n
 | N,z,t,l,h,hN=>by
  have h2:=Lr (f:=Sp.row) (fun x=>by rw[Nu];omega) l;have qf:(l.map Sp.row).length=l.length:=Aj ..;refine Oy T78 rfl ?_;simp only[go_sem,qf];refine Bh (α:=Nat × Int) (fun a=>l.length - a.1) (fun a=>[(0,SL z t (l.map Sp.row)),(3,iV a.2),(4,iV (a.1:Int))]) (fun _=>[]) (fun a=>a.1<=l.length) ?_ (0,_) (Av _);rintro⟨i,n⟩ hi ih;simp only at hi ih;refine Az Bmb ?_;rcases Bb i l.length with h' | h'
  .obtain⟨y,hy,-,hm⟩:=Bl h';have hb:=J5 (f:=Sp.row) hm;have jK:=Nu y
   cases N with
   | zero=>omega
   | succ N=>
    obtain⟨_,hf,n1,rfl⟩:=Ajf N y.bz y.bt y.body AA AA;obtain⟨_,hg,n2,rfl⟩:=Ajf N y.ez y.et y.els AA AA;have qe:=Fq y;simp only[go_sem,qf,Ar h'];refine Ad AD ?_;simp only[go_sem,Ai,hy,qe];refine Ax hf AB ?_;simp only[go_sem,Ai,hy,qe];refine Ax hg AB ?_;simp only[go_sem,Ay (show i<9223372036854775807 by omega)];exact Am (ih (i+1,_) AJ h') rfl
  .simp only[go_sem,qf,Bi h'];exact⟨_,rfl,⟨rfl,rfl,rfl⟩,_,rfl⟩
structure WK (σ:St) (w:Nat) (p:Gp) (th:Int) (uA uS uT:V) (A S T:List (List V)):Prop where
 row:σ[w]?=some (Fb p th uA uS uT)
 a:GS σ 11 104 uA A
 s:GS σ 1 9 uS S
 t:GS σ 1 9 uT T
 ad:∀ j∈uA.refs,j≠w/\j ∉ uS.refs/\j ∉ uT.refs
 sd:∀ j∈uS.refs,j≠w/\j ∉ uT.refs
 td:∀ j∈uT.refs,j≠w
 cl:Cl σ
def Om(z:Bool)(t:Nat)(l:List (List V)):(SL z t l).refs=[]:=by
 unfold SL
 split<;>rfl
def Aeq(p:Gp)(th:Int)(uA uS uT:V):Ah (wkR p th uA uS uT)=uA.refs++(uS.refs++uT.refs):=by
 simp only[Ah,Om,V.refs,Ci,Bw]
def Ti{σ:St}{w:Nat}{p:Gp}{th:Int}{uA uS uT:V}{A S T:List (List V)}(h:WK σ w p th uA uS uT A S T):w<σ.length:=(Al.1 h.row).1
def Tj{σ:St}{w:Nat}{p:Gp}{th:Int}{uA uS uT:V}{A S T:List (List V)}(h:WK σ w p th uA uS uT A S T):fp σ w=w::(uA.refs++(uS.refs++uT.refs)):=by
 rw[Ale h.row,Aeq]
def Akf{σ:St}{w:Nat}{p:Gp}{th:Int}{uA uS uT:V}{A S T:List (List V)}(h:WK σ w p th uA uS uT A S T)(l:St)(hc:Cl (σ++l)):WK (σ++l) w p th uA uS uT A S T:=by
 have k:∀ i,i<σ.length->(σ++l)[i]?=σ[i]?:=fun i hi=>C3 hi
 exact⟨by rw[k w (Ti h)];exact h.row,Ig h.a fun i hi=>k i (Cv h.a i hi),Ig h.s fun i hi=>k i (Cv h.s i hi),Ig h.t fun i hi=>k i (Cv h.t i hi),h.ad,h.sd,h.td,hc⟩
def Aat{σ σ2:St}{w:Nat}{p:Gp}{th th':Int}{uA uS uT vA vS vT:V}{A S T A' S' T':List (List V)}(h:WK σ w p th uA uS uT A S T)(hl:σ.length<=σ2.length)(hB:∀ j,j<σ.length->j ∉ uA.refs->j ∉ uS.refs->j ∉ uT.refs->σ2[j]?=σ[j]?)
  (ga:GS σ2 11 104 vA A') (gs:GS σ2 1 9 vS S') (gt:GS σ2 1 9 vT T') (rA:∀ j∈vA.refs,j∈uA.refs\/σ.length<=j) (rS:∀ j∈vS.refs,j∈uS.refs\/σ.length<=j) (rT:∀ j∈vT.refs,j∈uT.refs\/σ.length<=j)
  (d1:∀ j∈vA.refs,j ∉ vS.refs/\j ∉ vT.refs) (d2:∀ j∈vS.refs,j ∉ vT.refs) (hc:Cl σ2) :
  WK (σ2.set w (Fb p th' vA vS vT)) w p th' vA vS vT A' S' T'/\FW w σ (σ2.set w (Fb p th' vA vS vT)):=by
 have hw:=Ti h
 have nA:∀ j∈vA.refs,j≠w:=fun j hj e=>by
  rcases rA j hj with h2 | h2
  .exact(h.ad j h2).1 e
  .omega
 have nS:∀ j∈vS.refs,j≠w:=fun j hj e=>by
  rcases rS j hj with h2 | h2
  .exact(h.sd j h2).1 e
  .omega
 have nT:∀ j∈vT.refs,j≠w:=fun j hj e=>by
  rcases rT j hj with h2 | h2
  .exact h.td j h2 e
  .omega
 have ks:∀ (X:Ob) (j:Nat),j≠w->(σ2.set w X)[j]?=σ2[j]?:=fun X j hj=>Bk (Ne.symm hj)
 refine⟨⟨Bv AA,Ig ga fun i hi=>ks _ i (nA i hi),Ig gs fun i hi=>ks _ i (nS i hi),Ig gt fun i hi=>ks _ i (nT i hi),fun j hj=>⟨nA j hj,d1 j hj⟩,fun j hj=>⟨nS j hj,d2 j hj⟩,nT,Fi hc ?_⟩,?_⟩
 .intro i hi;simp only[Ob.refs,Aeq,Ch]at hi;rcases hi with hi | hi | hi
  .exact Cv ga i hi
  .exact Cv gs i hi
  .exact Cv gt i hi
 .have hf:=Tj h;refine Alf (τ:=σ2) ⟨hl,fun j hj hn=>?_,fun j hj=>?_⟩ hw fun j hj=>?_
  .rw[hf]at hn;simp only[Bo,Ch,not_or]at hn;exact hB j hj hn.2.1 hn.2.2.1 hn.2.2.2
  .rw[hf];have e2:σ2[w]?=σ[w]?:=hB w hw (fun e=>(h.ad w e).1 rfl) (fun e=>(h.sd w e).1 rfl) (fun e=>h.td w e rfl);unfold fp at hj;rw[e2,h.row]at hj;simp only[Ob.refs,Aeq]at hj;exact .inl hj
  .rw[Aeq]at hj;rw[hf];simp only[Bo,Ch]at hj ⊢;rcases hj with hj | hj | hj
   .rcases rA j hj with h2 | h2
    .exact .inl (.inr (.inl h2))
    .exact .inr h2
   .rcases rS j hj with h2 | h2
    .exact .inl (.inr (.inr (.inl h2)))
    .exact .inr h2
   .rcases rT j hj with h2 | h2
    .exact .inl (.inr (.inr (.inr h2)))
    .exact .inr h2
def Ayt{σ σ2:St}{w:Nat}{p:Gp}{th:Int}{uA uS uT:V}{A S T:List (List V)}(h:WK σ w p th uA uS uT A S T)(hB:∀ j,j<σ.length->j ∉ uA.refs->j ∉ uS.refs->j ∉ uT.refs->σ2[j]?=σ[j]?):σ2[w]?=some (Fb p th uA uS uT):=by
 rw[hB w (Ti h) (fun e=>(h.ad w e).1 rfl) (fun e=>(h.sd w e).1 rfl) (fun e=>h.td w e rfl)];exact h.row
def Bo0{σ:St}{w:Nat}{p:Gp}{th:Int}{uA uS uT:V}{A S T:List (List V)}(h:WK σ w p th uA uS uT A S T)(nm:List UInt8)(hb:S.length<=1000000000):∃ u' σ2,Dz 16 (1,9) uS (.lst 1 [[.str nm]]) σ=some (u',σ2)/\u'.cellB=true/\σ2[w]?=some (Fb p th uA uS uT) /\
  WK (σ2.set w (Fb p th uA u' uT)) w p th uA u' uT A (S++[[.str nm]]) T/\FW w σ (σ2.set w (Fb p th uA u' uT)):=by
 obtain⟨u',σ2,e1,g,hl,hk,hr,hc⟩:=W4 (bytes:=16) (row:=[.str nm]) h.s AA rfl rfl AA;have hB:∀ j,j<σ.length->j ∉ uA.refs->j ∉ uS.refs->j ∉ uT.refs->σ2[j]?=σ[j]?:=fun j hj _ h2 _=>hk j hj h2
 have nn:∀ j,j<σ.length->j ∉ uS.refs->j ∉ u'.refs:=fun j hj h1 h2=>by
  rcases hr j h2 with h3 | h3
  .exact h1 h3
  .omega
 exact⟨u',σ2,e1,J7 g,Ayt h hB,Aat h hl hB (Ig h.a fun i hi=>hk i (Cv h.a i hi) (h.ad i hi).2.1) g (Ig h.t fun i hi=>hk i (Cv h.t i hi) fun e=>(h.sd i e).2 hi) (fun j hj=>.inl hj) hr (fun j hj=>.inl hj)
  (fun j hj=>⟨nn j (Cv h.a j hj) (h.ad j hj).2.1,(h.ad j hj).2.2⟩) (fun j hj ht=>nn j (Cv h.t j ht) (fun e=>(h.sd j e).2 ht) hj) (hc h.cl)⟩
def X5{σ:St}{w:Nat}{p:Gp}{th:Int}{uA uS uT:V}{A S T:List (List V)}(h:WK σ w p th uA uS uT A S T)(nm:List UInt8)(hb:T.length<=1000000000):∃ u' σ2,Dz 16 (1,9) uT (.lst 1 [[.str nm]]) σ=some (u',σ2)/\u'.cellB=true/\σ2[w]?=some (Fb p th uA uS uT) /\
  WK (σ2.set w (Fb p th uA uS u')) w p th uA uS u' A S (T++[[.str nm]])/\FW w σ (σ2.set w (Fb p th uA uS u')):=by
 obtain⟨u',σ2,e1,g,hl,hk,hr,hc⟩:=W4 (bytes:=16) (row:=[.str nm]) h.t AA rfl rfl AA;have hB:∀ j,j<σ.length->j ∉ uA.refs->j ∉ uS.refs->j ∉ uT.refs->σ2[j]?=σ[j]?:=fun j hj _ _ h2=>hk j hj h2
 have nn:∀ j,j<σ.length->j ∉ uT.refs->j ∉ u'.refs:=fun j hj h1 h2=>by
  rcases hr j h2 with h3 | h3
  .exact h1 h3
  .omega
 exact⟨u',σ2,e1,J7 g,Ayt h hB,Aat h hl hB (Ig h.a fun i hi=>hk i (Cv h.a i hi) (h.ad i hi).2.2) (Ig h.s fun i hi=>hk i (Cv h.s i hi) (h.sd i hi).2) g (fun j hj=>.inl hj) (fun j hj=>.inl hj) hr
  (fun j hj=>⟨(h.ad j hj).2.1,nn j (Cv h.a j hj) (h.ad j hj).2.2⟩) (fun j hj=>nn j (Cv h.s j hj) (h.sd j hj).2) (hc h.cl)⟩
def Axd{R:V->Prop}{f p:Nat}{res:List AR}{body:AC}{vs:List V}{σ:St}(hT:TT f=some ⟨p,res,true,body,none⟩)(hl:vs.length=p)(h:W TT PT [.c body] (C6 0 vs) σ (Hd fun e' σ1=>∃ v,Ca e' σ1 res=some v/\(Cb v=true/\v.refs=[])/\(∃ l,σ1=σ++l)/\R v)):∃ v,Th TT PT f vs σ v σ/\R v:=by
 obtain⟨e',_,hE,v,hr,⟨h1,h2⟩,⟨l,rfl⟩,h3⟩:=h;exact⟨v,Ark hT rfl rfl hl ⟨e',_,hE,hr,⟨h1,by rw[h2];rfl,fun i ob hi ho=>.inl (by rw[C3 hi]at ho;exact ho)⟩,by rw[Ua]⟩,h3⟩
def Akg{R:V->St->Prop}{f p:Nat}{res:List AR}{body:AC}{vs:List V}{σ:St}(hT:TT f=some ⟨p,res,true,body,none⟩)(hl:vs.length=p)(h:W TT PT [.c body] (C6 0 vs) σ (Hd fun e' σ1=>∃ v,Ca e' σ1 res=some v/\(Cb v=true/\v.refs=[])/\(σ.length<=σ1.length/\Cl σ1)/\R v σ1)):∃ v σ',Th TT PT f vs σ v σ'/\R v σ':=by
 obtain⟨e',σ1,hE,v,hr,⟨h1,h2⟩,⟨h3,h4⟩,h5⟩:=h;exact⟨v,σ1,Ae0 hT hl ⟨e',σ1,hE,hr,rfl⟩ h2 h1 h3 h4,h5⟩
def Ayu{m j g off len i:Nat}{w:Bool}{k:IntKind}(h:i<len):Mb m (.sl j g off len m w) (.int k (i:Int))=some (.ptr j g (off+i*m)):=by
 simp only[Mb];rw[if_pos ⟨by omega,by omega,trivial⟩,J0]
set_option maxHeartbeats 1000000 in
def Qw{σ:St}{w:Nat}{p:Gp}{th:Int}{uA uS uT:V}{X:List Sp}{S T:List (List V)}(h:WK σ w p th uA uS uT (X.map Sp.row) S T)(hX:X.length<=1000000000)(a b:Int)(nm:List UInt8):∃ v,Th TT PT 159 [.ptr w 0 0,iV a,iV b,.str nm] σ v σ/\∃ z,v=.bool z:=by
 have qf:=Aas h.a;have n1:(X.map Sp.row).length=X.length:=Aj ..;rw[n1]at qf;refine Axd T159 rfl ?_;simp only[go_sem];refine Bh (α:=Nat × St) (fun a=>X.length - a.1) (fun x=>[(0,.ptr w 0 0),(1,iV a),(2,iV b),(3,.str nm),(9,iV (x.1:Int))]) (fun x=>x.2) (fun x=>x.1<=X.length/\∃ l,x.2=σ++l) ?_ (0,σ) ⟨Av _,[],by simp⟩;rintro⟨i,_⟩ ⟨hi,l,rfl⟩ ih;simp only at hi ih;have hr:=Bs (l:=l) h.row;refine Az Bgq ?_;rcases Bb i X.length with h' | h'
 .obtain⟨x,hx,-,-⟩:=Bl h';obtain⟨j,g,cs,rfl,ho,hb,qe⟩:=Bhr (i:=i) (row:=x.row) h.a (by rw[Ai,hx];rfl);rw[n1]at hr qf;have hj:=Bs (l:=l) ho
  have jo:Mf (σ++l)[j]? g 11 false (i*11)=some (.agg x.row):=by
   rw[hj];simp only[Mf];rw[if_pos ⟨trivial,by omega⟩,qe];rfl
  have jJ:=Hg x;have qB:=Fq x;rw[qB]at jo jJ
  cases qa:(x.op==a)<;>cases qb:(x.op==b)<;>cases qn:(nm==[])<;>cases qx:(x.nm==nm)
  all_goals
   simp only[go_sem,hr,qf,Ar h',Ayu h',jo,qa,qb,qn,qx,Ay (show i<9223372036854775807 by omega)]
   first
    | exact⟨_,rfl,⟨rfl,rfl⟩,⟨_,rfl⟩,_,rfl⟩
    | exact Am (ih (i+1,_) AJ ⟨h',_,rfl⟩) rfl
 .simp only[go_sem,hr,qf,Bi h'];exact⟨_,rfl,⟨rfl,rfl⟩,⟨_,rfl⟩,_,rfl⟩
