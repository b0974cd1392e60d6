/- Regions in which two effects have no order: they are walked once for each order. -/
import Derived.Test.YtlehfgdhebapeaaGreatDoorA5
set_option linter.all false
namespace Go.Proofs.YtlehfgdhebapeaaGreatDoor.KM
open Go
variable {T:Nat->Option AF} {pr:Nat->Option (List V->Option V)}
inductive LXt (deps:List (List Nat)) (n:Nat):List Nat->List Nat->Prop
 | nil {acc:List Nat}:acc.length=n->LXt deps n acc []
 | cons {acc:List Nat} {i:Nat} {L:List Nat}:i<n->i ∉ acc->(∀ d∈deps.getD i [],d∈acc)->LXt deps n (i::acc) L->LXt deps n acc (i::L)
theorem Abj{deps:List (List Nat)}{n:Nat}(hn:deps.length=n)(hdep:∀ j,j<n->∀ d∈deps.getD j [],d<j):∀ (fuel t:Nat) (acc:List Nat),acc.length+fuel=n->acc.Nodup->(∀ i∈acc,i<n)->LXt deps n acc (Jq deps fuel t acc)
 | 0,t,acc,hl,_,_=>.nil (by omega)
 | fuel+1,t,acc,hl,hnd,hlt=>by
  have hsome:∃ j,j<n/\j ∉ acc/\∀ d∈deps.getD j [],d∈acc:=by
   have hex:∃ j,j<n/\j ∉ acc:=by
    rcases Classical.em (∃ j,j<n/\j ∉ acc) with h | h
    ·exact h
    ·exfalso
     have hsub:∀ j,j<n->j∈acc:=fun j hj=>Classical.byContradiction fun hc=>h ⟨j,hj,hc⟩
     have h1:=Vu n acc hsub
     omega
   have:∀ k,∀ j,j<=k->j<n->j ∉ acc->∃ j,j<n/\j ∉ acc/\∀ d∈deps.getD j [],d∈acc:=by
    intro k
    induction k with
    | zero=>
     intro j hj h1 h2
     obtain rfl:j=0:=by omega
     exact⟨0,h1,h2,fun d hd=>absurd (hdep 0 h1 d hd) (by omega)⟩
    | succ k ih=>
     intro j hj h1 h2
     by_cases hall:∀ d∈deps.getD j [],d∈acc
     ·exact⟨j,h1,h2,hall⟩
     ·obtain⟨d,hd,hda⟩:∃ d,d∈deps.getD j []/\d ∉ acc:=Classical.byContradiction fun hc=>hall fun d hd=>Classical.byContradiction fun hda=>hc ⟨d,hd,hda⟩
      have:=hdep j h1 d hd
      exact ih d (by omega) (by omega) hda
   obtain⟨j,h1,h2⟩:=hex
   exact this j j (Af _) h1 h2
  unfold Jq
  generalize hrs:(List.range deps.length).filter (Io deps acc)=rs
  have hpos:0<rs.length:=by
   obtain⟨j,h1,h2,h3⟩:=hsome
   have:j∈rs:=by
    rw[<-hrs,Sm]
    refine⟨by rw[Ew,hn];exact h1,?_⟩
    simp only[Io,Ad,Hk,A5]
    refine⟨?_,fun d hd=>F5.2 (h3 d hd)⟩
    cases hel:acc.elem j with
    | false=>rfl
    | true=>exact absurd (F5.1 hel) h2
   exact Yo this
  have hget:rs[t % rs.length]?=some (rs[t % rs.length]'(Lw _ hpos)):=Az _
  generalize rs[t % rs.length]'(Lw _ hpos)=i at hget
  rw[hget]
  have hin:i∈rs:=Hj hget
  rw[<-hrs,Sm]at hin
  obtain⟨hir,hready⟩:=hin
  have hi:i<n:=by rw[Ew,hn]at hir;exact hir
  simp only[Io,Ad,Hk,A5]at hready
  have hia:i ∉ acc:=fun h=>by rw[F5.2 h]at hready;cases hready.1
  have hdeps:∀ d∈deps.getD i [],d∈acc:=fun d hd=>F5.1 (hready.2 d hd)
  exact .cons hi hia hdeps (Abj hn hdep fuel _ (i::acc) (by simp;omega) (Yy.2 ⟨hia,hnd⟩) (fun j hj=>by
   rcases Bm.1 hj with rfl | hj
   ·exact hi
   ·exact hlt j hj))
section
variable {deps:List (List Nat)} {ops:List AI} {e e1:Env} {σ σ1:St} {env:Nat->Env} {st:Nat->St} {val:Nat->V} {ro:Nat->Option (St->Prop)}
theorem Agh(hst:StaP deps ops)(q:Sr T pr deps ops.length 0 ops e σ [] [] e1 σ1 env st val ro):∀ (L acc:List Nat) (E:Env) (S':St),LXt deps ops.length acc L->acc.Nodup->(∀ i∈acc,i<ops.length)->DC deps acc ->
  EnvOK ops val e (·∈acc) E->R5 ops ro st acc S'->∃ E',Ev T pr (.ops (Ba ops L) E S' E' σ1)/\∀ m,E'.get m=e1.get m
 | [],acc,E,S',.nil hl,hn,hlt,hdc,hE,⟨m,hm,hS,heff⟩=>by
  have hall:∀ j,j<ops.length->j∈acc:=fun j hj=>Aiu hn hlt (by omega) hj
  refine⟨E,?_,fun k=>?_⟩
  ·have hs1:S'=σ1:=by
    rw[hS,<-q.s1,Fj]
    obtain⟨d,hd⟩:∃ d,m+d=ops.length:=⟨ops.length - m,by omega⟩
    rw[<-hd]
    refine(Ji q id d m (by omega) (fun k h1 h2 he=>?_)).symm
    have:=(heff k he).2 (hall k (by omega))
    omega
   rw[hs1]
   exact .opsNil
  ·have ht:=S5 q ops.length (Af _)
   have he1:=q.e1
   rw[Fj]at he1
   rw[<-he1]
   exact hE.same ht (fun j hj=>⟨fun h=>hlt j h,fun h=>hall j h⟩)
 | i::L,acc,E,S',.cons hi hia hdeps hL,hn,hlt,hdc,hE,⟨m,hm,hS,heff⟩=>by
  obtain⟨x,hx⟩:∃ x,ops[i]?=some x:=⟨ops[i],Az hi⟩
  have hup:∀ j y,i<j->ops[j]?=some y->j∈acc->I4 x y=true:=fun j y hij hy hj=>by
   rcases hst.pair i j x y hij hx hy with h | h
   ·exact absurd (M6 hdc _ j i h hj) hia
   ·exact h
  have hdn:∀ j y,j<i->ops[j]?=some y->j ∉ acc->I4 y x=true:=fun j y hij hy hj=>by
   rcases hst.pair j i y x hij hy hx with h | h
   ·exact absurd (Qo hdc hdeps h) hj
   ·exact h
  have dst_some:∀ {j t:Nat},Jt ops j=some t->∃ y,ops[j]?=some y/\y.dst=some t:=fun {j t} h=>by
   unfold Jt at h
   cases hy:ops[j]? with
   | none=>rw[hy]at h;simp at h
   | some y=>rw[hy]at h;exact⟨y,rfl,by simpa using h⟩
  have hagree:Agree (env i) E x.rd:=fun t ht=>by
   refine(S5 q i (by omega)).same hE (fun j hj=>?_)
   obtain⟨y,hy,hyd⟩:=dst_some hj
   constructor
   ·intro hlt'
    rcases Classical.em (j∈acc) with h | h
    ·exact h
    ·have:=hdn j y hlt' hy h
     simp only[I4,hyd,Ad,Hk]at this
     have h1:=this.1.1
     rw[F5.2 ht]at h1
     cases h1
   ·intro hja
    rcases On j i with h | h | h
    ·exact h
    ·subst h;exact absurd hja hia
    ·have:=hup j y h hy hja
     simp only[I4,hyd,Ad,Hk]at this
     have h1:=this.2
     rw[F5.2 ht]at h1
     cases h1
  obtain⟨henv,hkind⟩:=q.stp i x hx
  simp only[Fj]at henv hkind
  have hE':EnvOK ops val e (·∈i::acc) (E.putO x.dst (val i)):=(hE.put hx (fun j t hj hxd hjd=>by
   obtain⟨y,hy,hyd⟩:=dst_some hjd
   rcases On j i with h | h | h
   ·exact h
   ·subst h;exact absurd hj hia
   ·have:=hup j y h hy hj
    simp only[I4,hxd,hyd,Ad,Hk]at this
    have h1:=this.1.2
    simp at h1)).iff (fun j=>by simp[Bm])
  have hdc':DC deps (i::acc):=fun j hj d hd=>by
   rcases Bm.1 hj with rfl | hj
   ·exact Cb _ (hdeps d hd)
   ·exact Cb _ (hdc j hj d hd)
  have next:∀ S2,R5 ops ro st (i::acc) S2->Sg T pr x E S' (val i) S2->∃ E',Ev T pr (.ops (Ba ops (i::L)) E S' E' σ1)/\∀ m,E'.get m=e1.get m:=fun S2 hS2 hs2=>by
   obtain⟨E',h1,h2⟩:=Agh hst q L (i::acc) _ S2 hL (Yy.2 ⟨hia,hn⟩) (fun j hj=>by
    rcases Bm.1 hj with rfl | hj
    ·exact hi
    ·exact hlt j hj) hdc' hE' hS2
   refine⟨E',?_,h2⟩
   have:Ba ops (i::L)=x::Ba ops L:=by
    unfold Ba
    rw[Ft,hx]
   rw[this]
   exact hs2.ev h1
  have hb:=Aiw hst.dep
  cases hro:ro i with
  | none=>
   rw[hro]at hkind
   have hkind:Sg T pr x (env i) (st i) (val i) (st (i+1)):=hkind
   have hflat:∀ k,Rw ops ro k->(k∈acc↔k<i):=fun k ⟨hkl,hk0⟩=>by
    constructor
    ·intro hk
     rcases On k i with h | h | h
     ·exact h
     ·subst h;exact absurd hk hia
     ·have:=q.d0 i k h hkl (by simpa using hro) (by simpa using hk0)
      simp only[Fj]at this
      exact absurd (M6 hdc _ k i this hk) hia
    ·intro hk
     have:=q.d0 k i hk hi (by simpa using hk0) (by simpa using hro)
     simp only[Fj]at this
     exact Qo hdc hdeps this
   have hSi:S'=st i:=by
    rw[hS]
    rcases Y6 m i with hmi | hmi
    ·obtain⟨d,rfl⟩:=Ol hmi
     exact(Ji q id d m (by omega) (fun k a1 a2 he=>by
      have:=(heff k he).2 ((hflat k he).2 a2)
      omega)).symm
    ·obtain⟨d,rfl⟩:=Ol hmi
     exact Ji q id d i (by omega) (fun k a1 a2 he=>by
      have:=(hflat k he).1 ((heff k he).1 a2)
      omega)
   rw[hSi]at next ⊢
   refine next (st (i+1)) ⟨i+1,by omega,rfl,fun k he=>?_⟩ (hkind.move hagree)
   rw[Bm,hflat k he]
   omega
  | some R=>
   rw[hro]at hkind
   obtain⟨hk1,hk2,hk3⟩:st (i+1)=st i/\R (st i)/\∀ s',R s'->Sg T pr x (env i) s' (val i) s':=hkind
   have hS2:R5 ops ro st (i::acc) S':=⟨m,hm,hS,fun k he=>by
    rw[heff k he,Bm]
    constructor
    ·exact .inr
    ·rintro(rfl | h)
     ·rw[he.2]at hro;cases hro
     ·exact h⟩
   refine next S' hS2 ((hk3 S' ?_).move hagree)
   have hone:∀ k,Rw ops ro k->(k∈acc/\i<k\/k ∉ acc/\k<i)->R (st (k+1))=R (st k):=fun k ⟨hkl,hk0⟩ hk=>by
    have hd:=q.d1 i k R hi hkl (by simpa using hro) (by simpa using hk0)
    simp only[Fj]at hd
    rcases hd with h | h | h
    ·have hka:=Qo hdc hdeps h
     rcases hk with⟨_,hlt'⟩ | ⟨hk,_⟩
     ·have:=hb _ i k hi h
      omega
     ·exact absurd hka hk
    ·rcases hk with⟨hk,_⟩ | ⟨hk,hlt'⟩
     ·exact absurd (M6 hdc _ k i h hk) hia
     ·have:=hb _ k i (by omega) h
      omega
    ·exact propext h
   rw[hS]
   rcases Y6 m i with hmi | hmi
   ·obtain⟨d,rfl⟩:=Ol hmi
    have:=Ji q R d m (by omega) (fun k a1 a2 he=>hone k he (.inr ⟨fun hka=>by
     have:=(heff k he).2 hka
     omega,a2⟩))
    rw[<-this]
    exact hk2
   ·obtain⟨d,rfl⟩:=Ol hmi
    have:=Ji q R d i (by omega) (fun k a1 a2 he=>by
     have hka:=(heff k he).1 a2
     rcases Nat.eq_or_lt_of_le a1 with rfl | h
     ·exact absurd hka hia
     ·exact hone k he (.inl ⟨hka,h⟩))
    rw[this]
    exact hk2
theorem Aoz(hst:Ha deps ops=true)(h:TG T pr deps ops.length 0 ops e σ [] [] e1 σ1){L:List Nat}(hL:LXt deps ops.length [] L):∃ E',Ev T pr (.ops (Ba ops L) e σ E' σ1)/\∀ m,E'.get m=e1.get m:=by
 obtain⟨env,st,val,ro,q⟩:=h.sr
 exact Agh (Ahm hst) q L [] e σ hL Mt (fun i hi=>by cases hi) (fun j hj=>by cases hj) (fun t=>.inr ⟨(fun j hj=>by cases hj),rfl⟩) ⟨0,Bj _,q.s0.symm,fun j _=>by simp⟩
end
def Sc(L:List Nat)(a b:Nat):Prop:=∀ L1 L2,L=L1++b::L2->a∈L1
theorem Aja{L:List Nat}{a b:Nat}(hab:a≠b):Sc L a b\/Sc L b a:=by
 rcases Classical.em (Sc L a b) with h | h
 ·exact .inl h
 ·refine .inr ?_
  unfold Sc at h
  obtain⟨L1,h⟩:=Classical.not_forall.1 h
  obtain⟨L2,h⟩:=Classical.not_forall.1 h
  obtain⟨h1,h2⟩:=Classical.not_imp.1 h
  intro M1 M2 h3
  rw[h1]at h3
  rcases List.append_eq_append_iff.1 h3 with⟨c,rfl,h4⟩ | ⟨c,rfl,h4⟩
  ·cases c with
   | nil=>simp at h4;exact absurd h4.1.symm hab
   | cons x c=>simp at h4;simp[h4.1]
  ·cases c with
   | nil=>simp at h4;exact absurd h4.1 hab
   | cons x c=>simp at h4;exact absurd (by simp[h4.1]) h2
def DR(T:Nat->Option AF)(pr:Nat->Option (List V->Option V))(deps:List (List Nat))(X:List (Nat × Nat))(ops:List AI)(e:Env)(σ:St)(e1:Env)(σ1:St):Prop:=
 ∀ L,LXt deps ops.length [] L->(∀ p∈X,Sc L p.1 p.2)->∃ E',Ev T pr (.ops (Ba ops L) e σ E' σ1)/\∀ m,E'.get m=e1.get m
section
variable {deps:List (List Nat)} {ops:List AI} {e e1:Env} {σ σ1:St} {X:List (Nat × Nat)}
theorem Z8(a b:Nat)(hab:a≠b)(h1:DR T pr deps ((a,b)::X) ops e σ e1 σ1)(h2:DR T pr deps ((b,a)::X) ops e σ e1 σ1):DR T pr deps X ops e σ e1 σ1:=fun L hL hX=>by
 rcases Aja (L:=L) hab with h | h
 ·exact h1 L hL fun p hp=>by
   rcases Bm.1 hp with rfl | hp
   ·exact h
   ·exact hX p hp
 ·exact h2 L hL fun p hp=>by
   rcases Bm.1 hp with rfl | hp
   ·exact h
   ·exact hX p hp
def Je(P:List Nat)(i:Nat):Nat:=P.idxOf i
def Mg(deps deps':List (List Nat))(X:List (Nat × Nat))(n:Nat)(P:List Nat):Bool:=
 P.length==n&&((List.range n).all fun i=>P[Je P i]?==some i&&decide (Je P i<n)&&((deps'.getD (Je P i) []).all fun d'=>((deps.getD i []).any fun d=>Je P d==d')||X.any fun p=>p.2==i&&Je P p.1==d'))
theorem Agi{P:List Nat}{ops ops':List AI}(ho:Ba ops P=ops')(hlen:ops'.length=P.length)(hP:∀ i∈P,i<ops.length):∀ L:List Nat,(∀ i∈L,P[Je P i]?=some i)->Ba ops' (L.map (Je P))=Ba ops L
 | [],_=>rfl
 | i::L,h=>by
  have ih:=Agi ho hlen hP L fun j hj=>h j (Cb _ hj)
  have hi:=h i Co
  have key:∀ (P:List Nat) (k:Nat) (i:Nat),(∀ i∈P,i<ops.length)->P[k]?=some i->(Ba ops P)[k]?=ops[i]?:=by
   intro P
   induction P with
   | nil=>intro k i _ h;simp at h
   | cons p P ihP=>
    intro k i hlt h
    have hp:=hlt p Co
    have:Ba ops (p::P)=ops[p]::Ba ops P:=by
     unfold Ba
     rw[Ft,Az hp]
    rw[this]
    cases k with
    | zero=>simp at h;subst h;simp
    | succ k=>simp at h ⊢;exact ihP k i (fun j hj=>hlt j (Cb _ hj)) h
  have hk:=key P (Je P i) i hP hi
  rw[ho]at hk
  unfold Ba at ih ⊢
  rw[Ao,Ft,Ft,hk,ih]
theorem O7(P:List Nat)(deps':List (List Nat))(ops':List AI)(ho:Ba ops P=ops')(hlen:ops'.length=ops.length)(hp:Mg deps deps' X ops.length P=true)(hst:Ha deps' ops'=true){e2:Env}(h:TG T pr deps' ops'.length 0 ops' e σ [] [] e2 σ1)(he:∀ m,e2.get m=e1.get m):DR T pr deps X ops e σ e1 σ1:=by
 intro L hL hX
 unfold Mg at hp
 simp only[Ad,beq_iff_eq,A5,Ew,decide_eq_true_eq,Hu,Ms]at hp
 obtain⟨hp1,hp2⟩:=hp
 have hinj:∀ i j,i<ops.length->j<ops.length->Je P i=Je P j->i=j:=fun i j hi hj h=>by
  have a:=(hp2 i hi).1.1
  have b:=(hp2 j hj).1.1
  rw[h,b]at a
  exact(Or a).symm
 have main:∀ L acc,LXt deps ops.length acc L->(∀ i∈acc,i<ops.length)->(∀ p∈X,Sc (acc.reverse++L) p.1 p.2)->LXt deps' ops.length (acc.map (Je P)) (L.map (Je P))/\∀ i∈L,i<ops.length:=by
  intro L
  induction L with
  | nil=>
   intro acc hl _ _
   cases hl with
   | nil hl=>exact⟨.nil (by simpa using hl),by simp⟩
  | cons i L ih=>
   intro acc hl hlt hB
   cases hl with
   | cons hi hia hd hl=>
    have hlt':∀ j∈i::acc,j<ops.length:=fun j hj=>by
     rcases Bm.1 hj with rfl | hj
     ·exact hi
     ·exact hlt j hj
    obtain⟨g1,g2⟩:=ih (i::acc) hl hlt' (by simpa using hB)
    refine⟨.cons (hp2 i hi).1.2 (fun hm=>?_) (fun d' hd'=>?_) (by simpa using g1),fun j hj=>by
     rcases Bm.1 hj with rfl | hj
     ·exact hi
     ·exact g2 j hj⟩
    ·obtain⟨j,hj,hji⟩:=E4.1 hm
     have:=hinj j i (hlt j hj) hi hji
     subst this
     exact hia hj
    ·rcases(hp2 i hi).2 d' hd' with⟨d,h1,h2⟩ | ⟨p,h1,h2,h3⟩
     ·exact E4.2 ⟨d,hd d h1,h2⟩
     ·have:=hB p h1 acc.reverse L (by rw[h2])
      exact E4.2 ⟨p.1,by simpa using this,h3⟩
 obtain⟨g1,g2⟩:=main L [] hL (fun i hi=>by cases hi) (by simpa using hX)
 rw[<-hlen]at g1
 obtain⟨E',h1,h2⟩:=Aoz hst h g1
 refine⟨E',?_,fun m=>(h2 m).trans (he m)⟩
 have hPlt:∀ i∈P,i<ops.length:=by
  have hsub:∀ i,i<ops.length->i∈P:=fun i hi=>Hj (hp2 i hi).1.1
  intro i hi
  rcases D7 i ops.length with h | h
  ·exact h
  ·exfalso
   have h1:=Vu ops.length (P.erase i) (fun j hj=>(List.mem_erase_of_ne (by omega)).2 (hsub j hj))
   rw[List.length_erase,if_pos hi,hp1]at h1
   have:=Yo hi
   omega
 rw[Agi ho (by rw[hlen,hp1]) hPlt L (fun i hi=>(hp2 i (g2 i hi)).1.1)]at h1
 exact h1
theorem Ajb{kill:List Nat}{k:List It}{Q:Env->St->Prop}(hst:((deps.length==ops.length)&&(List.range ops.length).all fun j=>(deps.getD j []).all fun d=>decide (d<j))=true)(h:∃ e1 σ1,DR T pr deps [] ops e σ e1 σ1/\W T pr k (e1.del kill) σ1 Q):W T pr (.c (.drw kill deps ops)::k) e σ Q:=by
 obtain⟨e1,σ1,hd,e',σ',h2,q⟩:=h
 simp only[Ad,beq_iff_eq,A5,Ew,decide_eq_true_eq]at hst
 have key:∀ t,∃ E',Ev T pr (.ops (Ba ops (Gz deps t)) e σ E' σ1)/\∀ m,E'.get m=e1.get m:=fun t=>by
  refine hd _ ?_ (fun p hp=>by cases hp)
  unfold Gz
  rw[Wd]
  exact Abj hst.1 (fun j hj d hd=>hst.2 j hj d hd) deps.length t [] (by simp[hst.1]) Mt (fun i hi=>by cases hi)
 exact⟨e',σ',.cDrw (fun t=>(key t).choose) (fun t=>(key t).choose_spec.1) (fun t=>(key t).choose_spec.2) h2,q⟩
end
/-! environments by their slots -/
def Us(k:Nat)(v:V):Env->Env
 | []=>[(k,v)]
 | (m,u)::r=>if k<m then(k,v)::(m,u)::r else if k=m then(k,v)::r else(m,u)::Us k v r
def Mh:Env->Env
 | []=>[]
 | (k,v)::r=>Us k v (Mh r)
theorem Agj(k:Nat)(v:V)(n:Nat):∀ l:Env,(Us k v l).get n=if k=n then v else l.get n
 | []=>by simp[Us,Env.get]
 | (m,u)::r=>by
  have ih:=Agj k v n r
  unfold Us
  split
  ·simp[Env.get]
  ·split
   ·rename_i h;subst h
    simp only[Env.get]
    split<;>rfl
   ·simp only[Env.get,ih]
    split
    ·rename_i h1 h2 h3
     subst h3
     rw[if_neg h2]
    ·rfl
theorem Zr(n:Nat):∀ e:Env,(Mh e).get n=e.get n
 | []=>rfl
 | (k,v)::r=>by
  rw[Mh,Agj,Zr n r]
  rfl
theorem L3{e e':Env}(h:Mh e=Mh e')(n:Nat):e.get n=e'.get n:=by rw[<-Zr n e,h,Zr]
def DE(E:Env)(S:St)(e:Env)(σ:St):Prop:=e=E/\σ=S
def DS(E:Env)(S:St)(e:Env)(σ:St):Prop:=Mh e=Mh E/\σ=S
theorem Ajz{E:Env}{S:St}:DE E S E S:=⟨rfl,rfl⟩
theorem Ab4{E e:Env}{S σ:St}(h:Mh e=Mh E)(h':σ=S):DS E S e σ:=⟨h,h'⟩
theorem Avp{deps:List (List Nat)}{ops:List AI}{kill:List Nat}{k:List It}{e:Env}{σ:St}{Q:Env->St->Prop}(a b:Nat)(P1 P2:List Nat)(d1 d2:List (List Nat)){E:Env}{S:St}
  (hp:((deps.length==ops.length)&&((List.range ops.length).all fun j=>(deps.getD j []).all fun d=>decide (d<j))&&(a==b)==false&&Mg deps d1 [(a,b)] ops.length P1&&Mg deps d2 [(b,a)] ops.length P2&&Ha d1 (Ba ops P1)&&Ha d2 (Ba ops P2)&&(Ba ops P1).length==ops.length&&(Ba ops P2).length==ops.length)=true)
  (h1:wg T pr d1 (Ba ops P1).length [] [] (DE E S) 0 (Ba ops P1) e σ [] [])
  (h2:wg T pr d2 (Ba ops P2).length [] [] (DS E S) 0 (Ba ops P2) e σ [] [])
  (h:WE T pr (E.del kill) k S Q):W T pr (.c (.drw kill deps ops)::k) e σ Q:=by
 simp only[Ad,beq_iff_eq]at hp
 obtain⟨⟨⟨⟨⟨⟨⟨⟨hs1,hs2⟩,hab⟩,p1⟩,p2⟩,s1⟩,s2⟩,l1⟩,l2⟩:=hp
 have fin:∀ {e1:Env} {σ1:St} {P:Env->St->Prop},W T pr [] (e1.del []) σ1 P->P e1 σ1:=fun {e1 σ1 P} h=>by
  have hd:∀ e:Env,e.del []=e:=fun e=>by
   induction e with
   | nil=>rfl
   | cons p r ih=>obtain⟨m,v⟩:=p;simp only[Env.del,Vk,Dr,if_false,ih]
  rw[hd,Ri]at h
  exact h
 obtain⟨e1,σ1,t1,g1⟩:=I5 _ _ _ _ _ _ h1
 obtain⟨rfl,rfl⟩:=fin g1
 obtain⟨e2,σ2,t2,g3⟩:=I5 _ _ _ _ _ _ h2
 obtain⟨g4,rfl⟩:=fin g3
 refine Ajb ?_ ⟨_,_,Z8 a b (by simpa using hab) (O7 P1 d1 _ rfl l1 p1 s1 t1 fun _=>rfl) (O7 P2 d2 _ rfl l2 p2 s2 t2 (L3 g4)),h⟩
 simp only[Ad,beq_iff_eq]
 exact⟨hs1,hs2⟩
end Go.Proofs.YtlehfgdhebapeaaGreatDoor.KM
