/- Regions in which two effects have no order: they are walked once for each order. -/
import Derived.Test.YtcoeikinocflnaaGreatDoorA5
set_option linter.all false
namespace Go.Proofs.YtcoeikinocflnaaGreatDoor.KM
open Go
variable {T:Nat->Option AF} {pr:Nat->Option (List V->Option V)}
inductive LXt (deps:List (List Nat)) (n:Nat):List Nat->List Nat->Prop
 | nil {acc:List Nat}:acc.length=n->LXt deps n acc []
 | cons {acc:List Nat} {i:Nat} {L:List Nat}:i<n->i ∉ acc->(∀ d∈deps.getD i [],d∈acc)->LXt deps n (i::acc) L->LXt deps n acc (i::L)
theorem Akl{deps:List (List Nat)}{n:Nat}(hn:deps.length=n)(hdep:∀ j,j<n->∀ d∈deps.getD j [],d<j):∀ (fuel t:Nat) (acc:List Nat),acc.length+fuel=n->acc.Nodup->(∀ i∈acc,i<n)->LXt deps n acc (K3 deps fuel t acc)
 | 0,t,acc,hl,_,_=>.nil (by omega)
 | fuel+1,t,acc,hl,hnd,hlt=>by
  have hsome:∃ j,j<n/\j ∉ acc/\∀ d∈deps.getD j [],d∈acc:=by
   have hex:∃ j,j<n/\j ∉ acc:=by
    rcases Classical.em (∃ j,j<n/\j ∉ acc) with h | h
    ·exact h
    ·exfalso;have hsub:∀ j,j<n->j∈acc:=fun j hj=>Classical.byContradiction fun hc=>h ⟨j,hj,hc⟩
     have h1:=Wt n acc hsub;omega
   have:∀ k,∀ j,j<=k->j<n->j ∉ acc->∃ j,j<n/\j ∉ acc/\∀ d∈deps.getD j [],d∈acc:=by
    intro k
    induction k with
    | zero=>
     intro j hj h1 h2;obtain rfl:j=0:=by omega
     exact⟨0,h1,h2,fun d hd=>absurd (hdep 0 h1 d hd) (by omega)⟩
    | succ k ih=>
     intro j hj h1 h2;by_cases hall:∀ d∈deps.getD j [],d∈acc
     ·exact⟨j,h1,h2,hall⟩
     ·obtain⟨d,hd,hda⟩:∃ d,d∈deps.getD j []/\d ∉ acc:=Classical.byContradiction fun hc=>hall fun d hd=>Classical.byContradiction fun hda=>hc ⟨d,hd,hda⟩
      have:=hdep j h1 d hd;exact ih d (by omega) (by omega) hda
   obtain⟨j,h1,h2⟩:=hex;exact this j j (Ah _) h1 h2
  unfold K3;generalize hrs:(List.range deps.length).filter (I1 deps acc)=rs
  have hpos:0<rs.length:=by
   obtain⟨j,h1,h2,h3⟩:=hsome
   have:j∈rs:=by
    rw[<-hrs,Qm];refine⟨by rw[Fc,hn];exact h1,?_⟩;simp only[I1,Af,H8,Bd];refine⟨?_,fun d hd=>Gb.2 (h3 d hd)⟩
    cases hel:acc.elem j with
    | false=>rfl
    | true=>exact absurd (Gb.1 hel) h2
   exact Zt this
  have hget:rs[t % rs.length]?=some (rs[t % rs.length]'(Mi _ hpos)):=A0 _;generalize rs[t % rs.length]'(Mi _ hpos)=i at hget;rw[hget];have hin:i∈rs:=Gq hget;rw[<-hrs,Qm]at hin;obtain⟨hir,hready⟩:=hin;have hi:i<n:=by rw[Fc,hn]at hir;exact hir
  simp only[I1,Af,H8,Bd]at hready;have hia:i ∉ acc:=fun h=>by rw[Gb.2 h]at hready;cases hready.1
  have hdeps:∀ d∈deps.getD i [],d∈acc:=fun d hd=>Gb.1 (hready.2 d hd)
  exact .cons hi hia hdeps (Akl hn hdep fuel _ (i::acc) (by simp;omega) (Z1.2 ⟨hia,hnd⟩) (fun j hj=>by
   rcases Be.1 hj with rfl | hj
   ·exact hi
   ·exact hlt j hj))
section
variable {deps:List (List Nat)} {ops:List AI} {e e1:Env} {σ σ1:St} {env:Nat->Env} {st:Nat->St} {val:Nat->V} {ro:Nat->Option (St->Prop)}
theorem Ahr(hst:StaP deps ops)(q:Sr T pr deps ops.length 0 ops e σ [] [] e1 σ1 env st val ro):∀ (L acc:List Nat) (E:Env) (S':St),LXt deps ops.length acc L->acc.Nodup->(∀ i∈acc,i<ops.length)->DC deps acc ->
  EnvOK ops val e (·∈acc) E->Sl ops ro st acc S'->∃ E',Ev T pr (.ops (C5 ops L) E S' E' σ1)/\∀ m,E'.get m=e1.get m
 | [],acc,E,S',.nil hl,hn,hlt,hdc,hE,⟨m,hm,hS,heff⟩=>by
  have hall:∀ j,j<ops.length->j∈acc:=fun j hj=>Aj0 hn hlt (by omega) hj
  refine⟨E,?_,fun k=>?_⟩
  ·have hs1:S'=σ1:=by
    rw[hS,<-q.s1,Ez];obtain⟨d,hd⟩:∃ d,m+d=ops.length:=⟨ops.length - m,by omega⟩;rw[<-hd];refine(J8 q id d m (by omega) (fun k h1 h2 he=>?_)).symm;have:=(heff k he).2 (hall k (by omega));omega
   rw[hs1];exact .opsNil
  ·have ht:=Tl q ops.length (Ah _);have he1:=q.e1;rw[Ez]at he1;rw[<-he1];exact hE.same ht (fun j hj=>⟨fun h=>hlt j h,fun h=>hall j h⟩)
 | i::L,acc,E,S',.cons hi hia hdeps hL,hn,hlt,hdc,hE,⟨m,hm,hS,heff⟩=>by
  obtain⟨x,hx⟩:∃ x,ops[i]?=some x:=⟨ops[i],A0 hi⟩
  have hup:∀ j y,i<j->ops[j]?=some y->j∈acc->Jr x y=true:=fun j y hij hy hj=>by
   rcases hst.pair i j x y hij hx hy with h | h
   ·exact absurd (Ns hdc _ j i h hj) hia
   ·exact h
  have hdn:∀ j y,j<i->ops[j]?=some y->j ∉ acc->Jr y x=true:=fun j y hij hy hj=>by
   rcases hst.pair j i y x hij hy hx with h | h
   ·exact absurd (Qw hdc hdeps h) hj
   ·exact h
  have dst_some:∀ {j t:Nat},K6 ops j=some t->∃ y,ops[j]?=some y/\y.dst=some t:=fun {j t} h=>by
   unfold K6 at h
   cases hy:ops[j]? with
   | none=>rw[hy]at h;simp at h
   | some y=>rw[hy]at h;exact⟨y,rfl,by simpa using h⟩
  have hagree:Agree (env i) E x.rd:=fun t ht=>by
   refine(Tl q i (by omega)).same hE (fun j hj=>?_);obtain⟨y,hy,hyd⟩:=dst_some hj;constructor
   ·intro hlt';rcases Classical.em (j∈acc) with h | h
    ·exact h
    ·have:=hdn j y hlt' hy h;simp only[Jr,hyd,Af,H8]at this;have h1:=this.1.1;rw[Gb.2 ht]at h1;cases h1
   ·intro hja;rcases Ow j i with h | h | h
    ·exact h
    ·subst h;exact absurd hja hia
    ·have:=hup j y h hy hja;simp only[Jr,hyd,Af,H8]at this;have h1:=this.2;rw[Gb.2 ht]at h1;cases h1
  obtain⟨henv,hkind⟩:=q.stp i x hx;simp only[Ez]at henv hkind
  have hE':EnvOK ops val e (·∈i::acc) (E.putO x.dst (val i)):=(hE.put hx (fun j t hj hxd hjd=>by
   obtain⟨y,hy,hyd⟩:=dst_some hjd;rcases Ow j i with h | h | h
   ·exact h
   ·subst h;exact absurd hj hia
   ·have:=hup j y h hy hj;simp only[Jr,hxd,hyd,Af,H8]at this;have h1:=this.1.2
    simp at h1)).iff (fun j=>by simp[Be])
  have hdc':DC deps (i::acc):=fun j hj d hd=>by
   rcases Be.1 hj with rfl | hj
   ·exact Dz _ (hdeps d hd)
   ·exact Dz _ (hdc j hj d hd)
  have next:∀ S2,Sl ops ro st (i::acc) S2->Sg T pr x E S' (val i) S2->∃ E',Ev T pr (.ops (C5 ops (i::L)) E S' E' σ1)/\∀ m,E'.get m=e1.get m:=fun S2 hS2 hs2=>by
   obtain⟨E',h1,h2⟩:=Ahr hst q L (i::acc) _ S2 hL (Z1.2 ⟨hia,hn⟩) (fun j hj=>by
    rcases Be.1 hj with rfl | hj
    ·exact hi
    ·exact hlt j hj) hdc' hE' hS2
   refine⟨E',?_,h2⟩
   have:C5 ops (i::L)=x::C5 ops L:=by
    unfold C5;rw[Jh,hx]
   rw[this];exact hs2.ev h1
  have hb:=Aj2 hst.dep
  cases hro:ro i with
  | none=>
   rw[hro]at hkind;have hkind:Sg T pr x (env i) (st i) (val i) (st (i+1)):=hkind
   have hflat:∀ k,Sh ops ro k->(k∈acc↔k<i):=fun k ⟨hkl,hk0⟩=>by
    constructor
    ·intro hk;rcases Ow k i with h | h | h
     ·exact h
     ·subst h;exact absurd hk hia
     ·have:=q.d0 i k h hkl (by simpa using hro) (by simpa using hk0);simp only[Ez]at this;exact absurd (Ns hdc _ k i this hk) hia
    ·intro hk;have:=q.d0 k i hk hi (by simpa using hk0) (by simpa using hro);simp only[Ez]at this;exact Qw hdc hdeps this
   have hSi:S'=st i:=by
    rw[hS];rcases Aad m i with hmi | hmi
    ·obtain⟨d,rfl⟩:=Or hmi
     exact(J8 q id d m (by omega) (fun k a1 a2 he=>by
      have:=(heff k he).2 ((hflat k he).2 a2)
      omega)).symm
    ·obtain⟨d,rfl⟩:=Or hmi
     exact J8 q id d i (by omega) (fun k a1 a2 he=>by
      have:=(hflat k he).1 ((heff k he).1 a2)
      omega)
   rw[hSi]at next ⊢
   refine next (st (i+1)) ⟨i+1,by omega,rfl,fun k he=>?_⟩ (hkind.move hagree)
   rw[Be,hflat k he];omega
  | some R=>
   rw[hro]at hkind;obtain⟨hk1,hk2,hk3⟩:st (i+1)=st i/\R (st i)/\∀ s',R s'->Sg T pr x (env i) s' (val i) s':=hkind
   have hS2:Sl ops ro st (i::acc) S':=⟨m,hm,hS,fun k he=>by
    rw[heff k he,Be];constructor
    ·exact .inr
    ·rintro(rfl | h)
     ·rw[he.2]at hro;cases hro
     ·exact h⟩
   refine next S' hS2 ((hk3 S' ?_).move hagree)
   have hone:∀ k,Sh ops ro k->(k∈acc/\i<k\/k ∉ acc/\k<i)->R (st (k+1))=R (st k):=fun k ⟨hkl,hk0⟩ hk=>by
    have hd:=q.d1 i k R hi hkl (by simpa using hro) (by simpa using hk0);simp only[Ez]at hd;rcases hd with h | h | h
    ·have hka:=Qw hdc hdeps h;rcases hk with⟨_,hlt'⟩ | ⟨hk,_⟩
     ·have:=hb _ i k hi h;omega
     ·exact absurd hka hk
    ·rcases hk with⟨hk,_⟩ | ⟨hk,hlt'⟩
     ·exact absurd (Ns hdc _ k i h hk) hia
     ·have:=hb _ k i (by omega) h;omega
    ·exact propext h
   rw[hS];rcases Aad m i with hmi | hmi
   ·obtain⟨d,rfl⟩:=Or hmi
    have:=J8 q R d m (by omega) (fun k a1 a2 he=>hone k he (.inr ⟨fun hka=>by
     have:=(heff k he).2 hka
     omega,a2⟩))
    rw[<-this];exact hk2
   ·obtain⟨d,rfl⟩:=Or hmi
    have:=J8 q R d i (by omega) (fun k a1 a2 he=>by
     have hka:=(heff k he).1 a2;rcases Nat.eq_or_lt_of_le a1 with rfl | h
     ·exact absurd hka hia
     ·exact hone k he (.inl ⟨hka,h⟩))
    rw[this];exact hk2
theorem Aqy(hst:K8 deps ops=true)(h:TG T pr deps ops.length 0 ops e σ [] [] e1 σ1){L:List Nat}(hL:LXt deps ops.length [] L):∃ E',Ev T pr (.ops (C5 ops L) e σ E' σ1)/\∀ m,E'.get m=e1.get m:=by
 obtain⟨env,st,val,ro,q⟩:=h.sr;exact Ahr (Ait hst) q L [] e σ hL Qo (fun i hi=>by cases hi) (fun j hj=>by cases hj) (fun t=>.inr ⟨(fun j hj=>by cases hj),rfl⟩) ⟨0,A2 _,q.s0.symm,fun j _=>by simp⟩
end
def Sv(L:List Nat)(a b:Nat):Prop:=∀ L1 L2,L=L1++b::L2->a∈L1
theorem Ax4{L:List Nat}{a b:Nat}(hab:a≠b):Sv L a b\/Sv L b a:=by
 rcases Classical.em (Sv L a b) with h | h
 ·exact .inl h
 ·refine .inr ?_;unfold Sv at h;obtain⟨L1,h⟩:=Classical.not_forall.1 h;obtain⟨L2,h⟩:=Classical.not_forall.1 h;obtain⟨h1,h2⟩:=Classical.not_imp.1 h;intro M1 M2 h3;rw[h1]at h3;rcases List.append_eq_append_iff.1 h3 with⟨c,rfl,h4⟩ | ⟨c,rfl,h4⟩
  ·cases c with
   | nil=>simp at h4;exact absurd h4.1.symm hab
   | cons x c=>simp at h4;simp[h4.1]
  ·cases c with
   | nil=>simp at h4;exact absurd h4.1 hab
   | cons x c=>simp at h4;exact absurd (by simp[h4.1]) h2
def DR(T:Nat->Option AF)(pr:Nat->Option (List V->Option V))(deps:List (List Nat))(X:List (Nat × Nat))(ops:List AI)(e:Env)(σ:St)(e1:Env)(σ1:St):Prop:=
 ∀ L,LXt deps ops.length [] L->(∀ p∈X,Sv L p.1 p.2)->∃ E',Ev T pr (.ops (C5 ops L) e σ E' σ1)/\∀ m,E'.get m=e1.get m
section
variable {deps:List (List Nat)} {ops:List AI} {e e1:Env} {σ σ1:St} {X:List (Nat × Nat)}
theorem Aqz(a b:Nat)(hab:a≠b)(h1:DR T pr deps ((a,b)::X) ops e σ e1 σ1)(h2:DR T pr deps ((b,a)::X) ops e σ e1 σ1):DR T pr deps X ops e σ e1 σ1:=fun L hL hX=>by
 rcases Ax4 (L:=L) hab with h | h
 ·exact h1 L hL fun p hp=>by
   rcases Be.1 hp with rfl | hp
   ·exact h
   ·exact hX p hp
 ·exact h2 L hL fun p hp=>by
   rcases Be.1 hp with rfl | hp
   ·exact h
   ·exact hX p hp
def J2(P:List Nat)(i:Nat):Nat:=P.idxOf i
def Yz(deps deps':List (List Nat))(X:List (Nat × Nat))(n:Nat)(P:List Nat):Bool:=
 P.length==n&&((List.range n).all fun i=>P[J2 P i]?==some i&&decide (J2 P i<n)&&((deps'.getD (J2 P i) []).all fun d'=>((deps.getD i []).any fun d=>J2 P d==d')||X.any fun p=>p.2==i&&J2 P p.1==d'))
theorem Ahs{P:List Nat}{ops ops':List AI}(ho:C5 ops P=ops')(hlen:ops'.length=P.length)(hP:∀ i∈P,i<ops.length):∀ L:List Nat,(∀ i∈L,P[J2 P i]?=some i)->C5 ops' (L.map (J2 P))=C5 ops L
 | [],_=>rfl
 | i::L,h=>by
  have ih:=Ahs ho hlen hP L fun j hj=>h j (Dz _ hj)
  have hi:=h i Ec
  have key:∀ (P:List Nat) (k:Nat) (i:Nat),(∀ i∈P,i<ops.length)->P[k]?=some i->(C5 ops P)[k]?=ops[i]?:=by
   intro P
   induction P with
   | nil=>intro k i _ h;simp at h
   | cons p P ihP=>
    intro k i hlt h;have hp:=hlt p Ec
    have:C5 ops (p::P)=ops[p]::C5 ops P:=by
     unfold C5;rw[Jh,A0 hp]
    rw[this]
    cases k with
    | zero=>simp at h;subst h;simp
    | succ k=>simp at h ⊢;exact ihP k i (fun j hj=>hlt j (Dz _ hj)) h
  have hk:=key P (J2 P i) i hP hi;rw[ho]at hk;unfold C5 at ih ⊢;rw[Ba,Jh,Jh,hk,ih]
theorem Ai8(P:List Nat)(deps':List (List Nat))(ops':List AI)(ho:C5 ops P=ops')(hlen:ops'.length=ops.length)(hp:Yz deps deps' X ops.length P=true)(hst:K8 deps' ops'=true){e2:Env}(h:TG T pr deps' ops'.length 0 ops' e σ [] [] e2 σ1)(he:∀ m,e2.get m=e1.get m):DR T pr deps X ops e σ e1 σ1:=by
 intro L hL hX;unfold Yz at hp;simp only[Af,beq_iff_eq,Bd,Fc,decide_eq_true_eq,Hb,Li]at hp;obtain⟨hp1,hp2⟩:=hp
 have hinj:∀ i j,i<ops.length->j<ops.length->J2 P i=J2 P j->i=j:=fun i j hi hj h=>by
  have a:=(hp2 i hi).1.1;have b:=(hp2 j hj).1.1;rw[h,b]at a;exact(Nh a).symm
 have main:∀ L acc,LXt deps ops.length acc L->(∀ i∈acc,i<ops.length)->(∀ p∈X,Sv (acc.reverse++L) p.1 p.2)->LXt deps' ops.length (acc.map (J2 P)) (L.map (J2 P))/\∀ i∈L,i<ops.length:=by
  intro L
  induction L with
  | nil=>
   intro acc hl _ _
   cases hl with
   | nil hl=>exact⟨.nil (by simpa using hl),by simp⟩
  | cons i L ih=>
   intro acc hl hlt hB
   cases hl with
   | cons hi hia hd hl=>
    have hlt':∀ j∈i::acc,j<ops.length:=fun j hj=>by
     rcases Be.1 hj with rfl | hj
     ·exact hi
     ·exact hlt j hj
    obtain⟨g1,g2⟩:=ih (i::acc) hl hlt' (by simpa using hB)
    refine⟨.cons (hp2 i hi).1.2 (fun hm=>?_) (fun d' hd'=>?_) (by simpa using g1),fun j hj=>by
     rcases Be.1 hj with rfl | hj
     ·exact hi
     ·exact g2 j hj⟩
    ·obtain⟨j,hj,hji⟩:=D6.1 hm;have:=hinj j i (hlt j hj) hi hji;subst this;exact hia hj
    ·rcases(hp2 i hi).2 d' hd' with⟨d,h1,h2⟩ | ⟨p,h1,h2,h3⟩
     ·exact D6.2 ⟨d,hd d h1,h2⟩
     ·have:=hB p h1 acc.reverse L (by rw[h2]);exact D6.2 ⟨p.1,by simpa using this,h3⟩
 obtain⟨g1,g2⟩:=main L [] hL (fun i hi=>by cases hi) (by simpa using hX);rw[<-hlen]at g1;obtain⟨E',h1,h2⟩:=Aqy hst h g1;refine⟨E',?_,fun m=>(h2 m).trans (he m)⟩
 have hPlt:∀ i∈P,i<ops.length:=by
  have hsub:∀ i,i<ops.length->i∈P:=fun i hi=>Gq (hp2 i hi).1.1
  intro i hi;rcases Bx i ops.length with h | h
  ·exact h
  ·exfalso;have h1:=Wt ops.length (P.erase i) (fun j hj=>(List.mem_erase_of_ne (by omega)).2 (hsub j hj));rw[List.length_erase,if_pos hi,hp1]at h1;have:=Zt hi;omega
 rw[Ahs ho (by rw[hlen,hp1]) hPlt L (fun i hi=>(hp2 i (g2 i hi)).1.1)]at h1;exact h1
theorem Ax5{kill:List Nat}{k:List It}{Q:Env->St->Prop}(hst:((deps.length==ops.length)&&(List.range ops.length).all fun j=>(deps.getD j []).all fun d=>decide (d<j))=true)(h:∃ e1 σ1,DR T pr deps [] ops e σ e1 σ1/\W T pr k (e1.del kill) σ1 Q):W T pr (.c (.drw kill deps ops)::k) e σ Q:=by
 obtain⟨e1,σ1,hd,e',σ',h2,q⟩:=h;simp only[Af,beq_iff_eq,Bd,Fc,decide_eq_true_eq]at hst
 have key:∀ t,∃ E',Ev T pr (.ops (C5 ops (Mb deps t)) e σ E' σ1)/\∀ m,E'.get m=e1.get m:=fun t=>by
  refine hd _ ?_ (fun p hp=>by cases hp);unfold Mb;rw[Abb];exact Akl hst.1 (fun j hj d hd=>hst.2 j hj d hd) deps.length t [] (by simp[hst.1]) Qo (fun i hi=>by cases hi)
 exact⟨e',σ',.cDrw (fun t=>(key t).choose) (fun t=>(key t).choose_spec.1) (fun t=>(key t).choose_spec.2) h2,q⟩
end
/-! environments by their slots -/
def Vc(k:Nat)(v:V):Env->Env
 | []=>[(k,v)]
 | (m,u)::r=>if k<m then(k,v)::(m,u)::r else if k=m then(k,v)::r else(m,u)::Vc k v r
def M0:Env->Env
 | []=>[]
 | (k,v)::r=>Vc k v (M0 r)
theorem Aht(k:Nat)(v:V)(n:Nat):∀ l:Env,(Vc k v l).get n=if k=n then v else l.get n
 | []=>by simp[Vc,Env.get]
 | (m,u)::r=>by
  have ih:=Aht k v n r;unfold Vc
  split
  ·simp[Env.get]
  ·split
   ·rename_i h;subst h;simp only[Env.get]
    split<;>rfl
   ·simp only[Env.get,ih]
    split
    ·rename_i h1 h2 h3;subst h3;rw[if_neg h2]
    ·rfl
theorem Aa1(n:Nat):∀ e:Env,(M0 e).get n=e.get n
 | []=>rfl
 | (k,v)::r=>by
  rw[M0,Aht,Aa1 n r];rfl
theorem Aq0{e e':Env}(h:M0 e=M0 e')(n:Nat):e.get n=e'.get n:=by rw[<-Aa1 n e,h,Aa1]
def DE(E:Env)(S:St)(e:Env)(σ:St):Prop:=e=E/\σ=S
def DS(E:Env)(S:St)(e:Env)(σ:St):Prop:=M0 e=M0 E/\σ=S
theorem A1p{E:Env}{S:St}:DE E S E S:=⟨rfl,rfl⟩
theorem A1q{E e:Env}{S σ:St}(h:M0 e=M0 E)(h':σ=S):DS E S e σ:=⟨h,h'⟩
theorem Ax6{deps:List (List Nat)}{ops:List AI}{kill:List Nat}{k:List It}{e:Env}{σ:St}{Q:Env->St->Prop}(a b:Nat)(P1 P2:List Nat)(d1 d2:List (List Nat)){E:Env}{S:St}
  (hp:((deps.length==ops.length)&&((List.range ops.length).all fun j=>(deps.getD j []).all fun d=>decide (d<j))&&(a==b)==false&&Yz deps d1 [(a,b)] ops.length P1&&Yz deps d2 [(b,a)] ops.length P2&&K8 d1 (C5 ops P1)&&K8 d2 (C5 ops P2)&&(C5 ops P1).length==ops.length&&(C5 ops P2).length==ops.length)=true)
  (h1:wg T pr d1 (C5 ops P1).length [] [] (DE E S) 0 (C5 ops P1) e σ [] [])
  (h2:wg T pr d2 (C5 ops P2).length [] [] (DS E S) 0 (C5 ops P2) e σ [] [])
  (h:WE T pr (E.del kill) k S Q):W T pr (.c (.drw kill deps ops)::k) e σ Q:=by
 simp only[Af,beq_iff_eq]at hp;obtain⟨⟨⟨⟨⟨⟨⟨⟨hs1,hs2⟩,hab⟩,p1⟩,p2⟩,s1⟩,s2⟩,l1⟩,l2⟩:=hp
 have fin:∀ {e1:Env} {σ1:St} {P:Env->St->Prop},W T pr [] (e1.del []) σ1 P->P e1 σ1:=fun {e1 σ1 P} h=>by
  have hd:∀ e:Env,e.del []=e:=fun e=>by
   induction e with
   | nil=>rfl
   | cons p r ih=>obtain⟨m,v⟩:=p;simp only[Env.del,List.elem_nil,Er,if_false,ih]
  rw[hd,Ale]at h;exact h
 obtain⟨e1,σ1,t1,g1⟩:=Pr _ _ _ _ _ _ h1;obtain⟨rfl,rfl⟩:=fin g1;obtain⟨e2,σ2,t2,g3⟩:=Pr _ _ _ _ _ _ h2;obtain⟨g4,rfl⟩:=fin g3;refine Ax5 ?_ ⟨_,_,Aqz a b (by simpa using hab) (Ai8 P1 d1 _ rfl l1 p1 s1 t1 fun _=>rfl) (Ai8 P2 d2 _ rfl l2 p2 s2 t2 (Aq0 g4)),h⟩;simp only[Af,beq_iff_eq];exact⟨hs1,hs2⟩
