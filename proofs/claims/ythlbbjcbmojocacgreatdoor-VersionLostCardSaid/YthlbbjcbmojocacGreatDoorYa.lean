/- Lists whose rows name lists of their own. -/
import Derived.Test.YthlbbjcbmojocacGreatDoorNw
set_option linter.all false
namespace Go.Proofs.YthlbbjcbmojocacGreatDoor.KM
open Go
def Aaf(σ:St)(v:V)(js:List Nat):Prop:=∀ i∈v.refs,i∈js/\∀ ob,σ[i]?=some ob->∀ j∈ob.refs,j∈js
def ON(σ:St)(v v':V):Prop:=∀ js:List Nat,Aaf σ v js->∀ d,Fa σ js (d+3) v=some v'
def OW(σ:St)(v v':V):Prop:=∀ js:List Nat,Aaf σ v js->Gj σ js v=some v'
inductive ONs (σ:St):List V->List V->Prop
 | nil:ONs σ [] []
 | cons {v v':V} {vs qb:List V}:ON σ v v'->ONs σ vs qb->ONs σ (v::vs) (v'::qb)
inductive OWs (σ:St):List V->List V->Prop
 | nil:OWs σ [] []
 | cons {v v':V} {vs qb:List V}:OW σ v v'->OWs σ vs qb->OWs σ (v::vs) (v'::qb)
def Z0{σ:St}{v v':V}(h:OC σ v v'):ON σ v v':=fun js hj d=>h js (fun i hi=>(hj i hi).1) (d+1)
def Bh8{σ:St}{i g m e z:Nat}{w:Bool}{xs qr:List (List V)}(ho:σ[i]?=some (.row xs.flatten e g z))(hm:0<m)(hl:∀ r∈xs,r.length=m)(hc:OCs σ xs.flatten qr.flatten)(qF:∀ r∈qr,r.length=m)(hn:qr.length=xs.length):
  ON σ (.sl i g 0 xs.length m w) (.lst 0 qr):=by
 intro js hj d
 have hi:js.elem i=true:=by
  have:=(hj i (by simp[V.refs])).1;simpa using this
 have jj:∀ j∈Ah xs.flatten,j∈js:=(hj i (by simp[V.refs])).2 _ ho;have hf:=Gw hl;unfold Fa;rw[if_neg (by simp[V.rowB])];simp only[hi,if_true,ho];rw[if_pos ⟨trivial,hm,by omega⟩,I4,<-hf,Dc,Aib hc jj];simp only[Gb,<-hn,S0 qF]
def Ar5{σ:St}{js:List Nat}{d:Nat}:∀ {vs qb:List V},ONs σ vs qb->(∀ v∈vs,Aaf σ v js)->vs.mapM (Fa σ js (d+3))=some qb
 | _,_,.nil,_=>rfl
 | _,_,.cons h hs,hj=>by
  rw[H0,h js (hj _ C5) d,Ar5 hs fun v hv=>hj v (C4 _ hv)];rfl
def Ar6{σ:St}{js:List Nat}:∀ {vs qb:List V},OWs σ vs qb->(∀ v∈vs,Aaf σ v js)->vs.mapM (Gj σ js)=some qb
 | _,_,.nil,_=>rfl
 | _,_,.cons h hs,hj=>by
  rw[H0,h js (hj _ C5),Ar6 hs fun v hv=>hj v (C4 _ hv)];rfl
def Aij:∀ {cs:List V} {c:V},c∈cs->∀ i∈c.refs,i∈Ah cs
 | _::cs,c,h,i,hi=>by
  simp only[Ah,B8];rcases Bj.1 h with rfl | h
  .exact .inl hi
  .exact .inr (Aij h i hi)
def Bch{σ:St}{cs cs':List V}(h:ONs σ cs cs'):OW σ (.agg cs) (.agg cs'):=fun js hj=>by
 simp only[Gj];rw[Ar5 (d:=6) h fun v hv i hi=>hj i (Aij hv i hi)];rfl
def A2y(σ:St):∀ (d:Nat) (js:List Nat) (i:Nat),i∈js->∀ ob,σ[i]?=some ob->∀ j∈ob.refs,j∈Fl σ (d+1) js:=by
 intro d js i hi ob ho j hj;simp only[Fl];by_cases qy:j∈js
 .split
  .exact qy
  .exact Oh σ d _ j (O9 _ qy)
 .have qn:j∈(js.flatMap fun i=>match σ[i]? with
   | some ob=>ob.refs
   | none=>[]).filter fun i=>!js.elem i:=by
   rw[Pc];refine⟨List.mem_flatMap.2 ⟨i,hi,?_⟩,?_⟩
   .rw[ho];exact hj
   .simpa using qy
  rw[if_neg (by
   intro hh
   exact List.eq_nil_iff_forall_not_mem.1 (List.isEmpty_iff.1 hh) j qn)]
  exact Oh σ d _ j (List.mem_append_right _ (Sl.2 qn))
def A2z{σ:St}{v:V}{js:List Nat}(h:∀ i∈v.refs,i∈js):Aaf σ v (Fl σ 9 js):=fun i hi=>⟨Oh σ 9 _ i (h i hi),fun ob ho j hj=>A2y σ 8 js i (h i hi) ob ho j hj⟩
def A7l{σ:St}{vs qb:List V}(h:OWs σ vs qb):Dr σ vs=some qb:=Ar6 h fun v hv=>A2z fun i hi=>Sl.2 (Aij hv i hi)
/-! entries whose sites are lists of their own -/
def Ez(p:V × Ent):List V:=[iV p.2.kind,p.1,iV p.2.seen,iV p.2.missed]
def NG(s:St)(lo:Nat)(u:V)(L:List (V × Ent)):Prop:=GW s 4 45 lo u (L.map Ez)/\∀ p∈L,p.2.sites≠[]/\GW s 3 47 lo p.1 (p.2.sites.map Bd)
def R7(L:List (V × Ent)):List (List V):=L.map fun p=>p.2.own.row
def Pi(L:List (V × Ent)):∀ r∈L.map Ez,r.length=4:=by
 intro r hr;obtain⟨p,-,rfl⟩:=Ct.1 hr;rfl
def A20(L:List (V × Ent)):∀ r∈R7 L,r.length=4:=by
 intro r hr;obtain⟨p,-,rfl⟩:=Ct.1 hr;rfl
def Aty{s:St}{lo:Nat}:∀ {L:List (V × Ent)},(∀ p∈L,p.2.sites≠[]/\GW s 3 47 lo p.1 (p.2.sites.map Bd))->OCs s (L.map Ez).flatten (R7 L).flatten
 | [],_=>.nil
 | p::L,h=>by
  have h1:=Mp (h p C5).2 (by omega) (H3 _) (N7 _);exact .cons (Ff rfl) (.cons h1 (.cons (Ff rfl) (.cons (Ff rfl) (Aty fun q hq=>h q (C4 _ hq)))))
def Bh9{s:St}{lo:Nat}{u:V}{L:List (V × Ent)}(h:NG s lo u L):ON s u (SL true 0 (R7 L)):=by
 obtain⟨h1 | ⟨hn,i,g,rfl,ho,qd⟩,h2⟩:=h
 .obtain⟨rfl,h1⟩:=h1;obtain rfl:L=[]:=by simpa using h1
  exact Z0 (Ff rfl)
 .have jm:R7 L≠[]:=by
   intro e;apply hn;have:L=[]:=by simpa[R7] using e
   rw[this];rfl
  rw[Zx jm];exact Bh8 ho (by omega) (Pi L) (Aty h2) (A20 L) (by simp[R7])
section
variable {Q:Env->St->Prop} {e:Env} {σ:St} {k:List It} {l:List AI} {kill:List Nat} {f:Nat} {args vs:List V} {v:V} {d:Option Nat}
def Avk(hx:OWs σ args vs)(hf:Fn TT PT f vs v)(jf:v.flatV=true)(h:WR TT PT l kill k (e.putO d v) σ Q):WX TT PT (.call f args) d l kill k e σ Q:=
 Ju (.pure (A7l hx) hf) (by unfold after;rw[if_pos jf];exact h)
end
def Az6(a:List V)(k:Nat):∀ i∈Ah (a.take k),i∈Ah a:=by
 intro i hi;have:=G9 (a.take k) (a.drop k);rw[Gq]at this;rw[this];exact O9 _ hi
def Az7(a:List V)(k:Nat):∀ i∈Ah (a.drop k),i∈Ah a:=by
 intro i hi;have:=G9 (a.take k) (a.drop k);rw[Gq]at this;rw[this];exact List.mem_append_right _ hi
def Agn{σ σ':St}{m e lo bytes:Nat}{u u' y:V}{xs ys:List (List V)}(h:GW σ m e lo u xs)(hy:Ea σ m y=some ys)(ha:D6 bytes (m,e) u y σ=some (u',σ'))(hx:∀ i∈Ah xs.flatten,i<σ.length)(hz:∀ i∈Ah ys.flatten,i<σ.length)(hc:Cl σ):Cl σ':=by
 unfold D6 at ha;simp only[hy,Db]at ha;unfold J6 at ha
 split at ha
 .rcases h with⟨rfl,rfl⟩ | ⟨hn,i,g,rfl,ho,qd⟩
  .simp only at ha
   split at ha
   .split at ha
    .cases ha;exact hc
    .cases ha;exact I8 hc fun i hi=>Qr (hz i hi)
   .cases ha
  .simp only at ha
   split at ha
   .simp only[ho,if_true]at ha
    split at ha
    .cases ha;exact hc
    .split at ha
     .split at ha
      .cases ha;refine Gc hc fun j hj=>?_
       simp only[Ob.refs,G9,B8]at hj;rcases hj with(hj | hj) | hj
       .exact hx j (Az6 _ _ j hj)
       .exact hz j hj
       .exact hx j (Az7 _ _ j hj)
      .split at ha
       .cases ha;refine Gc hc fun j hj=>?_
        simp only[Ob.refs,G9,B8]at hj;rcases hj with hj | hj
        .exact hx j hj
        .exact hz j hj
       .cases ha
     .cases ha
   .cases ha
 .cases ha
def Ar7{s:St}{lo:Nat}:∀ {L:List (V × Ent)},(∀ p∈L,p.2.sites≠[]/\GW s 3 47 lo p.1 (p.2.sites.map Bd))->∀ i∈Ah (L.map Ez).flatten,i<s.length
 | [],_,i,hi=>by cases hi
 | p::L,h,i,hi=>by
  simp only[Bb,Dv,G9,Ez,Ah,V.refs,Cr,B3,B8]at hi;rcases hi with hi | hi
  .exact H6 (h p C5).2 i hi
  .exact Ar7 (fun q hq=>h q (C4 _ hq)) i (by simpa only[Ah,V.refs] using hi)
def Apy{s s':St}{m m' e e' qK n:Nat}{u w:V}{ys:List (List V)}(he:e≠e')(hu:u=.nils\/∃ i g cs,u=.sl i g 0 n m true/\s[i]?=some (.row cs e g 0))(h:GW s m' e' qK w ys)(hf:∀ j,(∀ i g,u=.sl i g 0 n m true->j≠i)->j<s.length->s'[j]?=s[j]?):GW s' m' e' qK w ys:=by
 rcases h with h | ⟨hn,j,g,rfl,ho,qd⟩
 .exact .inl h
 .refine .inr ⟨hn,j,g,rfl,?_,qd⟩;rw[hf j ?_ (Ak.1 ho).1]
  .exact ho
  .rintro i g' rfl rfl;rcases hu with hu | ⟨i,g2,cs,hu,hs⟩
   .cases hu
   .cases hu;rw[hs]at ho;cases ho;exact he rfl
def An7{s:St}{m e lo:Nat}{u:V}{xs:List (List V)}(h:GW s m e lo u xs):u=.nils\/∃ i g cs,u=.sl i g 0 xs.length m true/\s[i]?=some (.row cs e g 0):=by
 rcases h with⟨rfl,-⟩ | ⟨-,i,g,rfl,ho,-⟩
 .exact .inl rfl
 .exact .inr ⟨i,g,_,rfl,ho⟩
def Acw{s s':St}{lo:Nat}{u:V}{L:List (V × Ent)}(h:NG s lo u L)(hk:∀ j,lo<=j->j<s.length->s'[j]?=s[j]?):NG s' lo u L:=by
 have hg:∀ {m e:Nat} {w:V} {ys:List (List V)},GW s m e lo w ys->GW s' m e lo w ys:=by
  intro m e w ys hw;rcases hw with hw | ⟨hn,j,g,rfl,ho,qd⟩
  .exact .inl hw
  .exact .inr ⟨hn,j,g,rfl,(hk j qd (Ak.1 ho).1).trans ho,qd⟩
 exact⟨hg h.1,fun p hp=>⟨(h.2 p hp).1,hg (h.2 p hp).2⟩⟩
def Bci{s:St}{lo:Nat}:NG s lo .nils []:=⟨D5,fun p hp=>by cases hp⟩
/-! copies of entries, with lists of their own -/
def Axx(x:Item)(hx:x.ok){p n:Nat}(hp:0<p)(hn:n<=4)(A B C:V)(K S M:Int)(base:St)(k:List It)(Q:Env->St->Prop)
  (qv:∀ u s,Cl s->p+2<=s.length->(∀ j,j<p->s[j]?=base[j]?)->s[p+1]?=some (.row [iV K,u,iV S,iV M] 45 0 0)->GW s 3 47 (p+2) u (((x.nums.take n).map Mq).map Bd) ->
   W TT PT k [(3,.ptr 0 0 0),(6,.ptr (p+1) 0 0),(11,A),(12,B),(13,C),(49,.sl p 0 3 n 1 false),(50,iV n),(51,iV n)] s Q) :
  ∀ a:Nat × V × St,(a.1<=n/\Cl a.2.2/\p+2<=a.2.2.length/\(∀ j,j<p->a.2.2[j]?=base[j]?)/\a.2.2[p]?=some (.row x.row 115 0 0)/\a.2.2[p+1]?=some (.row [iV K,a.2.1,iV S,iV M] 45 0 0)/\GW a.2.2 3 47 (p+2) a.2.1 (((x.nums.take a.1).map Mq).map Bd)) ->
   W TT PT (.l [3,6,11,12,13,49,50,51] lp21_0::.b 2::k) [(3,.ptr 0 0 0),(6,.ptr (p+1) 0 0),(11,A),(12,B),(13,C),(49,.sl p 0 3 n 1 false),(50,iV n),(51,iV a.1)] a.2.2 Q:=by
 refine Bn (α:=Nat × V × St) (fun a=>n - a.1) _ _ _ ?_;rintro⟨j,u,s⟩ ⟨hj,qs,hl,h0,h1,h2,hg⟩ ih;simp only at hj qs hl h0 h1 h2 hg ih;refine Bl Bgt ?_;rcases Be j n with h | h
 .obtain⟨m,hm,-,-⟩:=By (l:=x.nums) (i:=j) (by simp[Item.nums];omega)
  have ql:m<256:=by
   have:=Ge hm;simp[Item.nums]at this;unfold Item.ok at hx;omega
  have qG:Li (some (.row x.row 115 0 0)) 0 1 true (3+j)=some (.int .u8 (m:Int)):=by
   have:j=0\/j=1\/j=2\/j=3:=by omega
   rcases this with rfl | rfl | rfl | rfl<;>simp[Item.nums]at hm<;>subst hm<;>rfl
  rw[Ahr]at qG h1;obtain⟨u1,s1,e1,g1,l1,-,f1⟩:=Hl (bytes:=40) (y:=.lst 1 [Bd (Mq m)]) (ys:=[Bd (Mq m)]) hg hl rfl (by omega) (H3 _) (by simp[Bd]) (by simp;omega);have qt:Cl s1:=Ag1 hg rfl e1 (G8 (Im (N7 _))) (by simp[Bd,Ah,V.refs]) qs
  have qu:Cl (s1.set (p+1) (.row [iV K,u1,iV S,iV M] 45 0 0)):=Gc qt fun i hi=>by
   simp only[Ob.refs,Ah,V.refs,B3,Cr]at hi;exact H6 g1 i hi
  simp only[Bd]at e1;have q0:∀ j,j<p->s1[j]?=base[j]?:=fun j hj=>(f1 j (by omega)).trans (h0 j hj)
  have q1:=(f1 p (by omega)).trans h1;have q2:=(f1 (p+1) (by omega)).trans h2;simp only[go_sem,A0 h,Y0 h,h1,qG,Ahr];refine Ag (by kernel_rfl) ?_;simp only[go_sem,h2];refine Bk (A7a m ql) rfl ?_;simp only[go_sem,e1,Bd];refine Tm (by repeat (first | exact trivial | refine⟨.inl (by rfl),?_⟩ | refine⟨by rfl,?_⟩ | refine⟨.inr ⟨by rfl,by rfl⟩,?_⟩)) (by repeat (first | exact trivial | refine⟨.inl (by rfl),?_⟩ | refine⟨by rfl,?_⟩ | refine⟨.inr ⟨by rfl,by rfl⟩,?_⟩)) ?_;simp only[go_sem,q2,Ok (Cu g1),Cu g1];refine Tm (by repeat (first | exact trivial | refine⟨.inl (by rfl),?_⟩ | refine⟨by rfl,?_⟩ | refine⟨.inr ⟨by rfl,by rfl⟩,?_⟩)) (by repeat (first | exact trivial | refine⟨.inl (by rfl),?_⟩ | refine⟨by rfl,?_⟩ | refine⟨.inr ⟨by rfl,by rfl⟩,?_⟩)) ?_;simp only[go_sem,A2 (show j<9223372036854775807 by omega)];have e2:∀ j,j<p->(s1.set (p+1) (.row [iV K,u1,iV S,iV M] 45 0 0))[j]?=base[j]?:=fun j hj=>by rw[Bh (by omega)];exact q0 j hj
  refine As (ih (j+1,u1,s1.set (p+1) (.row [iV K,u1,iV S,iV M] 45 0 0)) (by simp;omega) ⟨by simp;omega,qu,by simp;omega,e2,?_,?_,?_⟩) rfl
  .simp only[Ahr];rw[Bh (by omega)];exact q1
  .simp only;rw[B5 (by omega)]
  .simp only;rw[Az2 hm];exact Ft g1 (by omega)
 .obtain rfl:j=n:=by omega
  simp only[go_sem,Bq h];exact qv u s qs hl h0 h2 hg
def Bia{σ:St}{v v':V}(h:ON σ v v')(hc:v.cellB=true):OW σ v v':=fun js hj=>by
 have:=h js hj 6;unfold Gj
 cases v<;>simp[V.cellB]at hc<;>first | exact this | (simp[Fa,V.rowB]at this)
def Az8{m:Nat}{xs:List (List V)}(hl:∀ r∈xs,r.length=m){i:Nat}(hi:i<=xs.length):xs.flatten.drop (i*m)=(xs.drop i).flatten:=by
 have h1:xs.flatten=(xs.take i).flatten++(xs.drop i).flatten:=by rw[<-Sh,Gq]
 have h2:(xs.take i).flatten.length=i*m:=by
  rw[Gw fun r hr=>hl r (Ik hr),Eg,Su hi]
 rw[h1,<-h2,Af7]
def Az9{m:Nat}{xs:List (List V)}(hl:∀ r∈xs,r.length=m){i:Nat}(hi:i<=xs.length):Fc m i xs.flatten=xs.take i:=by
 have h1:xs.flatten=(xs.take i).flatten++(xs.drop i).flatten:=by rw[<-Sh,Gq]
 have h2:=Abv m (xs.take i) (xs.drop i).flatten fun r hr=>hl r (Ik hr)
 rw[Eg,Su hi]at h2;rw[h1];exact h2
def A0a{σ:St}{m e lo:Nat}{u:V}{xs:List (List V)}(h:GW σ m e lo u xs)(hl:∀ r∈xs,r.length=m){i:Nat}(hi:i<=xs.length):
  ∃ a,Je m u none (some (iV (i:Int))) none=some a/\∀ σ':St,(∀ j,j<σ.length->σ'[j]?=σ[j]?)->Ea σ' m a=some (xs.take i):=by
 rcases h with⟨rfl,rfl⟩ | ⟨hn,b,g,rfl,ho,qd⟩
 .obtain rfl:i=0:=by simpa using hi
  exact⟨.nils,rfl,fun _ _=>rfl⟩
 .refine⟨.sl b g (0+0*m) (i - 0) m true,?_,fun σ' hk=>?_⟩
  .simp only[Je,Ag3,Dq];simp[hi]
  .have:=(hk b (Ak.1 ho).1).trans ho;have hf:=Gw hl;have qj:i*m<=xs.length*m:=Fp m hi;simp only[Ea,this];rw[U9,if_pos ⟨trivial,trivial,by omega⟩,Xx,Ll,I4,Az9 hl hi]
def A0b{σ:St}{m e lo:Nat}{u:V}{xs:List (List V)}(h:GW σ m e lo u xs)(hl:∀ r∈xs,r.length=m){i:Nat}(hi:i<=xs.length):
  ∃ a,Je m u (some (iV (i:Int))) none none=some a/\∀ σ':St,(∀ j,j<σ.length->σ'[j]?=σ[j]?)->Ea σ' m a=some (xs.drop i):=by
 rcases h with⟨rfl,rfl⟩ | ⟨hn,b,g,rfl,ho,qd⟩
 .obtain rfl:i=0:=by simpa using hi
  exact⟨.nils,rfl,fun _ _=>rfl⟩
 .refine⟨.sl b g (0+i*m) (xs.length - i) m true,?_,fun σ' hk=>?_⟩
  .simp only[Je,Ag3,Dq];simp[hi]
  .have:=(hk b (Ak.1 ho).1).trans ho;have hf:=Gw hl;have qj:i*m+(xs.length - i)*m=xs.length*m:=by rw[<-Nb];congr 1;omega
   simp only[Ea,this];rw[if_pos ⟨trivial,trivial,by omega⟩,E3,Az8 hl hi];have:=S0 (m:=m) (xs:=xs.drop i) fun r hr=>hl r (Sf hr)
   rw[D1]at this;rw[this]
def Bjx{τ:St}{i x t:Nat}{a b c d:V}{e:Env}(h:τ[i]?=some (.row [a,b,c,d] t 0 0))(h1:e.get x=.ptr i 0 0):Cd e τ [AR.cell x 4 false]=some (.agg [a,b,c,d]):=by
 simp only[Cd,Gl,h1,Ib,h];rfl
def Bcj{a s:St}(h:∀ j,j<a.length->s[j]?=a[j]?):∃ J,s=a++J:=⟨s.drop a.length,So fun j=>by
 by_cases hj:j<a.length
 .rw[h j hj,B6 hj]
 .rw[Co (by omega),Hx];congr 1
  omega⟩
def Axy{σ:St}{w:V}{x:Ent}(hc:Cl σ)(hw:∀ J:St,Ea (σ++J) 3 w=some (x.sites.map Bd))(qc:w.cellB=true)(jt:∀ i∈w.refs,i<σ.length)(hn:x.sites≠[])(hb:x.sites.length<=1000000):
  ∃ w' J,Bv TT PT 84 [.agg [iV x.kind,w,iV x.seen,iV x.missed]] σ (.agg [iV x.kind,w',iV x.seen,iV x.missed]) (σ++J)/\Cl (σ++J)/\GW (σ++J) 3 47 σ.length w' (x.sites.map Bd):=by
 have jv:x.sites.map Bd≠[]:=by simpa using hn
 obtain⟨w',s1,e1,g1,l1,-,f1⟩:=Hl (lo:=σ.length+2) (σ:=σ++[.row [iV x.kind,w,iV x.seen,iV x.missed] 45 0 0,.row [iV 0,.nils,iV 0,iV 0] 45 0 0]) (m:=3) (e:=47) (bytes:=40) (y:=w) (ys:=x.sites.map Bd) D5 (by simp) (hw _) (by omega) (by simp) (H3 _) (by simp;omega);rw[Cr]at g1;have qe:=Cu g1
 have jc:Cl (σ++[.row [iV x.kind,w,iV x.seen,iV x.missed] 45 0 0,.row [iV 0,.nils,iV 0,iV 0] 45 0 0]):=by
  have:=I8 (ob:=.row [iV x.kind,w,iV x.seen,iV x.missed] 45 0 0) hc fun i hi=>by
   simp only[Ob.refs,Ah,V.refs,Cr,B3]at hi;exact Qr (jt i hi)
  have:=I8 (ob:=.row [iV 0,.nils,iV 0,iV 0] 45 0 0) this (by simp[Ob.refs,Ah,V.refs]);simpa using this
 have jd:Cl s1:=Ag1 (D5 (lo:=σ.length+2)) (hw _) e1 rfl (G8 (Im (N7 _))) jc
 have hk:∃ J:St,s1=σ++[.row [iV x.kind,w,iV x.seen,iV x.missed] 45 0 0,.row [iV 0,.nils,iV 0,iV 0] 45 0 0]++J:=by
  exact Bcj fun j hj=>f1 j (by simpa using hj)
 obtain⟨J,rfl⟩:=hk
 have hS:∀ a b:Ob,((σ++[Ob.row [iV x.kind,w,iV x.seen,iV x.missed] 45 0 0,Ob.row [iV 0,.nils,iV 0,iV 0] 45 0 0]++J).set σ.length a).set (σ.length+1) b=σ++(a::b::J):=fun a b=>by
  rw[Da];simp[List.set_append]
 have g2:GW (σ++(.row [iV x.kind,w',iV x.seen,iV x.missed] 45 0 0::.row [iV x.kind,w',iV x.seen,iV x.missed] 45 0 0::J)) 3 47 (σ.length+2) w' (x.sites.map Bd):=by
  rw[<-hS];exact Ft (Ft g1 (by omega)) (by omega)
 have c2:Cl (σ++(.row [iV x.kind,w',iV x.seen,iV x.missed] 45 0 0::.row [iV x.kind,w',iV x.seen,iV x.missed] 45 0 0::J)):=by
  rw[<-hS];refine Gc (Gc jd fun i hi=>?_) fun i hi=>?_
  .simp only[Ob.refs,Ah,V.refs,Cr,B3]at hi;exact H6 g1 i hi
  .rw[Hi];simp only[Ob.refs,Ah,V.refs,Cr,B3]at hi;exact H6 g1 i hi
 refine⟨w',_,To T84 rfl ?_ (fun i hi=>?_) ?_ (by simp) c2,c2,Aeh g2 (by omega)⟩
 .simp only[Da,Hz,Cr]at e1;simp only[go_sem,Ok qc,qc,e1,Ok qe,qe];exact⟨Bjx (Ah8 _ _ 1) rfl,rfl⟩
 .simp only[V.refs,Ah,Cr,B3]at hi;exact H6 g2 i hi
 .simp only[Cm,H8,Aw,Bi,U5,qe];rfl
def Dj(L:List (V × Ent)):Prop:=L.Pairwise fun p q=>∀ i∈p.1.refs,i ∉ q.1.refs
def A7m{σ:St}{lo:Nat}{u w:V}{L:List (V × Ent)}{x:Ent}{i:Nat}(hc:Cl σ)(hg:NG σ lo u L)(qd:lo<=σ.length)(hi:i<=L.length)(hb:L.length<=100000)(hw:GW σ 3 47 lo w (x.sites.map Bd))(hx:x.sites≠[])(qB:x.sites.length<=1000000):
  ∃ u' σ' w',Bv TT PT 55 [u,iV (i:Int),.agg [iV x.kind,w,iV x.seen,iV x.missed]] σ u' σ'/\Cl σ'/\σ.length<=σ'.length/\(∀ j,j<σ.length->σ'[j]?=σ[j]?)/\NG σ' lo u' (L.take i++(w',x)::L.drop i)/\∀ j∈w'.refs,σ.length<=j:=by
 have qc:=Cu hw;have hL:(L.map Ez).length=L.length:=Ap ..;obtain⟨a,ha,ra⟩:=A0a hg.1 (Pi L) (i:=i) (by omega);obtain⟨b,ja,rb⟩:=A0b hg.1 (Pi L) (i:=i) (by omega);rw[<-Sw]at ra;rw[<-Aga]at rb;have hr:∀ {L':List (V × Ent)},(∀ p∈L',p∈L)->∀ i∈Ah (L'.map Ez).flatten,i<σ.length:=fun qX=>Ar7 fun p hp=>hg.2 p (qX p hp)
 have c1:Cl (σ++[.row [iV x.kind,w,iV x.seen,iV x.missed] 45 0 0]):=I8 hc fun j hj=>by
  simp only[Ob.refs,Ah,V.refs,Cr,B3]at hj;exact Qr (H6 hw j hj)
 have qL:=ra (σ++[.row [iV x.kind,w,iV x.seen,iV x.missed] 45 0 0]) fun j hj=>B6 hj
 obtain⟨u1,s1,e1,g1,l1,-,f1⟩:=Hl (lo:=σ.length+1) (σ:=σ++[.row [iV x.kind,w,iV x.seen,iV x.missed] 45 0 0]) (m:=4) (e:=45) (bytes:=48) (y:=a) D5 (by simp) qL (by omega) (by simp) (Pi _) (by simp;omega);rw[Cr]at g1;simp only[Al,Am,C9]at l1;have c2:Cl s1:=Agn (D5 (lo:=σ.length+1)) qL e1 (by simp[Ah]) (fun j hj=>by have:=hr (fun p hp=>Ik hp) j hj;simp;omega) c1;have k1:∀ j,j<σ.length->s1[j]?=σ[j]?:=fun j hj=>(f1 j (by omega)).trans (B6 hj)
 have q1:s1[σ.length]?=some (.row [iV x.kind,w,iV x.seen,iV x.missed] 45 0 0):=(f1 _ (by omega)).trans (Q3 ..);have qe:GW s1 3 47 lo w (x.sites.map Bd):=Aii hw k1
 obtain⟨w',J,je,c3,g2⟩:=Axy (w:=w) (x:=x) c2 (fun J=>by
  rcases Gk (l:=J) qe with⟨rfl,h0⟩ | ⟨hn,ib,g,rfl,ho,-⟩
  .rw[h0];rfl
  .simp only[Ea,ho];have hf:=Gw (H3 x.sites)
   rw[if_pos ⟨trivial,trivial,by omega⟩,I4,S0 (H3 _)]) qc (H6 qe) hx qB
 have qo:=Cu g2;have qp:=Gk (l:=J++[Ob.row (Ez (w',x)) 45 0 0]) g1
 have c4:Cl (s1++J++[Ob.row (Ez (w',x)) 45 0 0]):=I8 c3 fun j hj=>by
  simp only[Ob.refs,Ez,Ah,V.refs,Cr,B3]at hj;exact Qr (H6 g2 j hj)
 rw[<-Da]at qp;have jn:(s1++J++[Ob.row (Ez (w',x)) 45 0 0])[(s1++J).length]?=some (.row (Ez (w',x)) 45 0 0):=Q3 ..
 have ry:Ea (s1++J++[Ob.row (Ez (w',x)) 45 0 0]) 4 (.sl (s1++J).length 0 0 1 4 true)=some [Ez (w',x)]:=by
  simp only[Ea,jn];rfl
 obtain⟨u2,s2,e2,g3,l2,qP,f2⟩:=Hl (bytes:=48) qp (by simp;omega) ry (by omega) (Pi _) (Pi [(w',x)]) (by simp;omega)
 have qN:∀ j∈Ah ((L.take i).map Ez).flatten,j<(s1++J++[Ob.row (Ez (w',x)) 45 0 0]).length:=fun j hj=>by
  have:=hr (L':=L.take i) (fun p hp=>Ik hp) j hj;simp;omega
 have qO:∀ j∈Ah [Ez (w',x)].flatten,j<(s1++J++[Ob.row (Ez (w',x)) 45 0 0]).length:=fun j hj=>by
  simp only[Dv,Aa6,B3,Ez,Ah,V.refs,Cr]at hj;have:=H6 g2 j hj;simp at this ⊢;omega
 have c5:Cl s2:=Agn qp ry e2 qN qO c4;simp only[Al,Am,C9]at l2
 have k2:∀ j,j<σ.length->s2[j]?=σ[j]?:=fun j hj=>by
  rw[f2 j (by omega),B6 (by simp;omega),B6 (by omega)];exact k1 j hj
 have qR:GW s2 3 47 s1.length w' (x.sites.map Bd):=Apy (by omega) (An7 qp) (Gk g2) qP;have qM:=rb s2 k2
 have qk:∀ r∈(L.take i).map Ez++[Ez (w',x)],r.length=4:=fun r hr=>by
  rcases B8.1 hr with h | h
  .exact Pi _ r h
  .rw[Eo.1 h];rfl
 obtain⟨u3,s3,e3,g4,l3,qQ,f3⟩:=Hl (bytes:=48) g3 (by omega) qM (by omega) qk (Pi _) (by simp;omega)
 have c6:Cl s3:=Agn g3 qM e3 (fun j hj=>by
  rw[Sh,G9]at hj;rcases B8.1 hj with h | h
  .have:=qN j h;simp at this;omega
  .have:=qO j h;simp at this;omega) (fun j hj=>by have:=hr (L':=L.drop i) (fun p hp=>Sf hp) j hj;omega) c5
 have k3:∀ j,j<σ.length->s3[j]?=σ[j]?:=fun j hj=>(f3 j (by omega)).trans (k2 j hj)
 have qh:GW s3 3 47 s1.length w' (x.sites.map Bd):=Apy (by omega) (An7 g3) qR qQ;refine⟨u3,s3,w',To T55 rfl ?_ (H6 g4) (Acd g4) (by omega) c6,c6,by omega,k3,⟨?_,?_⟩,fun j hj=>?_⟩
 rotate_right
 .rcases qh with⟨rfl,-⟩ | ⟨-,ib,gb,rfl,-,jl⟩
  .simp[V.refs]at hj
  .simp[V.refs]at hj;omega
 .simp only[Ez,Da,Al]at e2;simp only[go_sem,Ok qc,qc,ha,e1,q1];refine Ac je ?_;simp only[go_sem,Ok qo,qo,e2,ja,e3];exact⟨rfl,rfl⟩
 .have:(L.take i++(w',x)::L.drop i).map Ez=(L.take i).map Ez++[Ez (w',x)]++(L.drop i).map Ez:=by simp
  rw[this];exact Aeh g4 (by omega)
 .intro p hp;rcases B8.1 hp with h | h
  .exact⟨(hg.2 p (Ik h)).1,Aii (hg.2 p (Ik h)).2 k3⟩
  .rcases Bj.1 h with rfl | h
   .exact⟨hx,Aeh qh (by omega)⟩
   .exact⟨(hg.2 p (Sf h)).1,Aii (hg.2 p (Sf h)).2 k3⟩
def A7n{L:List (V × Ent)}{l:List Ent}(h:L.map (·.2)=l)(ho:∀ x∈l,x.own=x):R7 L=l.map Ent.row:=by
 subst h;unfold R7;rw[Na];refine U0 fun p hp=>?_
 show p.2.own.row=p.2.row;rw[ho p.2 (List.mem_map_of_mem hp)]
def Ayo{σ:St}{lo:Nat}{u w:V}{L:List (V × Ent)}{l:List Ent}{x:Ent}(hc:Cl σ)(hg:NG σ lo u L)(qd:lo<=σ.length)(hL:L.map (·.2)=l)(qf:∀ y∈l,y.own=y)(qg:x.own=x)(hb:l.length<=100000)(ho:okE l)
  (hw:GW σ 3 47 lo w (x.sites.map Bd)) (hx:x.sites≠[]) (qB:x.sites.length<=1000000) :
  ∃ u' σ' L',Bv TT PT 22 [u,.agg [iV x.kind,w,iV x.seen,iV x.missed]] σ u' σ'/\Cl σ'/\σ.length<=σ'.length/\(∀ j,j<σ.length->σ'[j]?=σ[j]?)/\NG σ' lo u' L'/\L'.map (·.2)=Jg x l/\(Dj L->Dj L'):=by
 have qc:=Cu hw;have qq:=Cu hg.1;have qZ:L.length=l.length:=by rw[<-hL,Ap]
 have hp:=Apq true 0 l x (by omega) ho (by omega)
 have c1:Cl (σ++[.row [iV x.kind,w,iV x.seen,iV x.missed] 45 0 0]):=I8 hc fun j hj=>by
  simp only[Ob.refs,Ah,V.refs,Cr,B3]at hj;exact Qr (H6 hw j hj)
 have k1:∀ j,j<σ.length->(σ++[.row [iV x.kind,w,iV x.seen,iV x.missed] 45 0 0]:St)[j]?=σ[j]?:=fun j hj=>B6 hj
 have qi:NG (σ++[.row [iV x.kind,w,iV x.seen,iV x.missed] 45 0 0]) lo u L:=Acw hg fun j _ hj=>k1 j hj
 have qe:GW (σ++[.row [iV x.kind,w,iV x.seen,iV x.missed] 45 0 0]) 3 47 lo w (x.sites.map Bd):=Gk hw;have o1:=Bia (Bh9 qi) qq;rw[A7n hL qf]at o1
 have oe:OW (σ++[.row [iV x.kind,w,iV x.seen,iV x.missed] 45 0 0]) (.agg [iV x.kind,w,iV x.seen,iV x.missed]) (.agg x.row):=by
  have:=Bch (σ:=σ++[.row [iV x.kind,w,iV x.seen,iV x.missed] 45 0 0]) (.cons (Z0 (Ff (v:=iV x.kind) rfl)) (.cons (Z0 (Mp qe (by omega) (H3 _) (N7 _))) (.cons (Z0 (Ff (v:=iV x.seen) rfl)) (.cons (Z0 (Ff (v:=iV x.missed) rfl)) .nil))));have e:x.row=x.own.row:=by rw[qg]
  rw[e];exact this
 have jw:(σ++[.row [iV x.kind,w,iV x.seen,iV x.missed] 45 0 0])[σ.length]?=some (.row [iV x.kind,w,iV x.seen,iV x.missed] 45 0 0):=Q3 ..;unfold Jg;cases ht:Nm x l
 .rw[ht]at hp;rw[if_neg (by simp)];obtain⟨u',s2,w',jq,c2,l2,k2,g2,fr⟩:=A7m (i:=Es x l) c1 qi (by simp;omega) (by rw[qZ];exact Abw x l) (by omega) qe hx qB;simp only[Al,Am,C9]at l2 k2 fr;refine⟨u',s2,_,To T22 rfl ?_ (H6 g2.1) (Acd g2.1) (by omega) c2,c2,by omega,fun j hj=>(k2 j (by omega)).trans (k1 j hj),g2,?_,fun hd=>?_⟩
  .simp only[go_sem,Ok qc,qc];refine Avk (.cons o1 (.cons oe .nil)) hp rfl ?_;simp only[go_sem];refine Ac jq ?_;simp only[go_sem];exact⟨rfl,rfl⟩
  .rw[Dw,Bb,Sw,Aga,hL]
  .unfold Dj at hd ⊢;have qD:=hd;rw[<-Gq (Es x l) L]at qD;obtain⟨d1,d2,d3⟩:=Aay.1 qD;have qH:∀ p∈L,∀ j∈p.1.refs,j<σ.length:=fun p hp j hj=>H6 (hg.2 p hp).2 j hj
   refine Aay.2 ⟨d1,Sm.2 ⟨fun q hq j hj qx=>?_,d2⟩,fun a ha b hb=>?_⟩
   .have h1:=fr j hj;have h2:=qH q (Sf hq) j qx;omega
   .rcases Bj.1 hb with rfl | hb
    .intro j hj qx;have h1:=fr j qx;have h2:=qH a (Ik ha) j hj;omega
    .exact d3 a ha b hb
 .rw[ht]at hp;rw[if_pos rfl];refine⟨u,_,L,To T22 rfl ?_ (H6 qi.1) (Acd qi.1) (by simp) c1,c1,by simp,k1,qi,hL,id⟩;simp only[go_sem,Ok qc,qc];refine Avk (.cons o1 (.cons oe .nil)) hp rfl ?_;simp only[go_sem];exact⟨rfl,rfl⟩
def Avl(l:List Ent)(u:V)(s:St):Prop:=∃ L,NG s 1 u L/\L.map (·.2)=l/\Cl s/\Dj L
def Axm(z:Bool)(t:Nat)(l:List Item)(hl:l.length<=9223372036854775807)(jp:∀ x∈l,x.ok):∃ u σ0,FnO TT PT 21 [SL z t (l.map Item.row)] u σ0/\Avl (Fw l 20) u σ0:=by
 refine Bcf (P:=Avl (Fw l 20)) T21 rfl ?_ (fun v s ⟨L,h,_,hc,_⟩=>⟨hc,Acd h.1,H6 h.1⟩);simp only[go_sem,Ap]
 refine Bn (α:=Nat × V × List (V × Ent) × St) (fun a=>l.length - a.1) (fun a=>[(3,.ptr 0 0 0),(11,SL z t (l.map Item.row)),(12,iV l.length),(13,iV a.1)]) (fun a=>a.2.2.2)
  (fun a=>a.1<=l.length/\a.1<=20/\a.2.2.2[0]?=some (.row [iV 0,a.2.1] 35 0 0)/\NG a.2.2.2 1 a.2.1 a.2.2.1/\a.2.2.1.map (·.2)=Fw l a.1/\Cl a.2.2.2/\Dj a.2.2.1) ?_ (0,.nils,[],[.row [iV 0,.nils] 35 0 0]) ⟨by simp,by simp,rfl,Bci,rfl,fun o ho i hi=>by rw[Eo.1 ho]at hi;simp[Ob.refs,Ah,V.refs]at hi,List.Pairwise.nil⟩
 rintro⟨i,U,L,s⟩ ⟨hi,jh,h0,hG,hL,hC,hD⟩ ih;simp only at hi jh h0 hG hL hC hD ih;have hs:1<=s.length:=(Ak.1 h0).1;obtain⟨jx,jy,qJ⟩:=Acc l i;refine Bl Bgu ?_;rcases Be i l.length with h | h
 .obtain⟨x,hx,-,hm⟩:=By h;have qg:=jp x hm;have hk:x.kind<256/\x.seen<256/\x.missed<256:=⟨qg.1,qg.2.1,qg.2.2.1⟩;have qU:Cl (s++[.row x.row 115 0 0]):=I8 hC (by simp[Item.row,Ob.refs,Ah,V.refs]);have qT:∀ J,(s++J)[0]?=some (.row [iV 0,U] 35 0 0):=fun J=>Bx h0
  simp only[go_sem,A0 h,Aj,hx];refine Ov (fun h2=>?_) (fun h2=>?_)
  .simp only[go_sem,qT]
   have:Fw l 20=Fw l i:=by
    have:i=20:=by simp at h2;omega
    rw[this]
   rw[this];exact⟨_,rfl,L,Acw hG fun j _ hj=>B6 hj,hL,qU,hD⟩
  .have ji:i<20:=by simp at h2;omega
   have w1:IntKind.i64.wrap (x.kind:Int)=x.kind:=Ch (by omega);have w2:IntKind.i64.wrap (x.seen:Int)=x.seen:=Ch (by omega);have w3:IntKind.i64.wrap (x.missed:Int)=x.missed:=Ch (by omega);have r1:(x.kind:Int).tmod 4=((x.kind % 4:Nat):Int):=Zz x.kind 4;have r2:(x.seen:Int).tmod 9=((x.seen % 9:Nat):Int):=Zz x.seen 9;have r3:(x.missed:Int).tmod 8=((x.missed % 8:Nat):Int):=Zz x.missed 8;have r4:(x.kind:Int).tdiv 4=((x.kind / 4:Nat):Int):=Bh6 x.kind 4;have r5:((x.kind / 4:Nat):Int).tmod 3=((x.kind / 4 % 3:Nat):Int):=Zz (x.kind / 4) 3;have a1:IntKind.i64.wrap (1+((x.kind % 4:Nat):Int))=1+((x.kind % 4:Nat):Int):=Ch (by omega);have a2:IntKind.i64.wrap (1+((x.seen % 9:Nat):Int))=1+((x.seen % 9:Nat):Int):=Ch (by omega);have a3:IntKind.i64.wrap ((x.kind / 4:Nat):Int)=((x.kind / 4:Nat):Int):=Ch (by omega);have a4:IntKind.i64.wrap (2+((x.kind / 4 % 3:Nat):Int))=2+((x.kind / 4 % 3:Nat):Int):=Ch (by omega);have a5:IntKind.i64.wrap (1+((x.kind % 4:Nat):Int) - 1)=((x.kind % 4:Nat):Int):=by rw[Ch (by omega)];omega
   have hn:=Zg x.kind
   have jk:([[iV 2],[iV (2+((x.kind / 4 % 3:Nat):Int))],[iV 2],[iV 4]]:List (List V))[x.kind % 4]?=some [iV ((Sa x.kind:Nat):Int)]:=by
    have:x.kind % 4=0\/x.kind % 4=1\/x.kind % 4=2\/x.kind % 4=3:=by omega
    unfold Sa
    rcases this with h | h | h | h<;>rw[h]<;>simp
   simp only[go_sem,w1,w2,w3,r1,r2,r3,r4,r5,a1,a2,a3,a4,a5,jk,hn.2];refine Axx x qg (p:=s.length) (n:=Sa x.kind) (by omega) hn.2 _ _ _ (1+((x.kind % 4:Nat):Int)) (1+((x.seen % 9:Nat):Int)) ((x.missed % 8:Nat):Int) s _ _ ?_ (0,.nils,s++[.row x.row 115 0 0,.row [iV (1+((x.kind % 4:Nat):Int)),.nils,iV (1+((x.seen % 9:Nat):Int)),iV ((x.missed % 8:Nat):Int)] 45 0 0]) ⟨by simp,?_,by simp,fun j hj=>B6 hj,Q3 _ _,Ah8 _ _ 1,D5⟩;rotate_left
   .have c1:=I8 (ob:=.row x.row 115 0 0) hC (by simp[Item.row,Ob.refs,Ah,V.refs]);have c2:=I8 (ob:=.row [iV (1+((x.kind % 4:Nat):Int)),.nils,iV (1+((x.seen % 9:Nat):Int)),iV ((x.missed % 8:Nat):Int)] 45 0 0) c1 (by simp[Ob.refs,Ah,V.refs]);simpa using c2
   intro u s' jb qF qE qS jg;have qC:s'[0]?=some (.row [iV 0,U] 35 0 0):=(qE 0 (by omega)).trans h0;have qW:NG s' 1 U L:=Acw hG fun j _ hj=>qE j hj
   have jo:okE (Fw l i):=fun e he=>by obtain⟨y,-,rfl⟩:=qJ e he;rw[X5];have:=Zg y.kind;omega
   have qf:∀ y∈Fw l i,y.own=y:=fun e he=>by obtain⟨y,-,rfl⟩:=qJ e he;rfl
   have ju:x.ent.sites≠[]:=by
    intro e;have:=X5 x;rw[e]at this;simp at this;omega
   have qm:=An4 (l:=l) (i:=i) hx;obtain⟨u',s2,L2,qw,c2,l2,k2,g2,qY,qV⟩:=Ayo (w:=u) (x:=x.ent) jb qW (by omega) hL qf rfl (by omega) jo (Aeh jg (by omega)) ju (by rw[X5];omega);have q0:s2[0]?=some (.row [iV 0,U] 35 0 0):=(k2 0 (by omega)).trans qC;have qq:=Cu g2.1;simp only[go_sem,qC,qS];refine Ac qw ?_;simp only[go_sem,q0,Ok qq,qq,A2 (show i<9223372036854775807 by omega)];refine As (ih (i+1,u',L2,_) (by simp;omega) ⟨by simp;omega,by simp;omega,?_,Acw g2 fun j hj _=>by rw[Bh (by omega)],?_,Gc c2 ?_,qV hD⟩) rfl
   .simp only;rw[B5 (by omega)]
   .rw[qY,qm]
   .intro j hj;simp only[Ob.refs,Ah,V.refs,B3,Cr]at hj;exact H6 g2.1 j hj
 .simp only[go_sem,Bq h,h0]
  have:Fw l 20=Fw l i:=by
   unfold Fw;rw[Kz h,Kz (by omega)]
  rw[this];exact⟨_,rfl,L,hG,hL,hC,hD⟩
/-! expressions -/
structure Xp where
 op:Int
 n:Int
 nm:List UInt8
 z:Bool
 t:Nat
 l:List Xp
mutual
def Xp.row:Xp->List V
 | ⟨op,n,nm,z,t,l⟩=>[.int .i64 op,.int .i64 n,.str nm,SL z t (Xp.rows l)]
def Xp.rows:List Xp->List (List V)
 | []=>[]
 | x::l=>x.row::Xp.rows l
end
def An8:∀ l:List Xp,Xp.rows l=l.map Xp.row
 | []=>rfl
 | x::l=>by rw[Xp.rows,An8 l];rfl
def Bf(x:Xp):x.row=[iV x.op,iV x.n,.str x.nm,SL x.z x.t (x.l.map Xp.row)]:=by
 rw[<-An8];cases x;rfl
def Xp.zero:Xp:=⟨0,0,[],true,0,[]⟩
def Cs(op:Int):List UInt8:=
 match op with
 | 4=>[45] | 5=>[33] | 6=>[43] | 7=>[45] | 8=>[42] | 9=>[47] | 10=>[37] | 11=>[61,61] | 12=>[33,61] | 13=>[60] | 14=>[60,61] | 15=>[62] | 16=>[62,61] | 17=>[38,38] | 18=>[124,124] | _=>[]
def Bw(op:Int):Int:=
 match op with
 | 4=>6 | 5=>6 | 6=>4 | 7=>4 | 8=>5 | 9=>5 | 10=>5 | 11=>3 | 12=>3 | 13=>3 | 14=>3 | 15=>3 | 16=>3 | 17=>2 | 18=>1 | _=>7
def Xe(op:Int):Int:=if op=1\/op=2 then 0 else if 3<=op/\op<=5 then 1 else if 6<=op/\op<=18 then 2 else -1
def D7(o:Int × List UInt8)(qa:Int):List UInt8:=if Bw o.1<qa then 40::(o.2++[41]) else o.2
def Ho(op:Int):Int:=if Bw op=3 then 4 else Bw op
def Ed(op n:Int)(nm:List UInt8)(ts:List (Int × List UInt8)):List UInt8:=
 if op=1 then C2 n else if op=2 then nm else
 match ts with
 | [a]=>if op=3 then nm++91::(a.2++[93]) else Cs op++D7 a 6
 | [a,b]=>D7 a (Ho op)++32::(Cs op++32::D7 b (Bw op+1))
 | _=>[]
mutual
def Xp.txt:Xp->List UInt8
 | ⟨op,n,nm,_,_,l⟩=>Ed op n nm (Xp.txts l)
def Xp.txts:List Xp->List (Int × List UInt8)
 | []=>[]
 | x::l=>(x.op,x.txt)::Xp.txts l
end
def An9:∀ l:List Xp,Xp.txts l=l.map fun x=>(x.op,x.txt)
 | []=>rfl
 | x::l=>by rw[Xp.txts,An9 l];rfl
def Fq(x:Xp):x.txt=Ed x.op x.n x.nm (x.l.map fun x=>(x.op,x.txt)):=by
 rw[<-An9];cases x;rfl
inductive Cn:Xp->Prop
 | num {n:Int} {nm:List UInt8} {z:Bool} {t:Nat} : -9223372036854775808<=n/\n<=9223372036854775807->Cn ⟨1,n,nm,z,t,[]⟩
 | name {n:Int} {nm:List UInt8} {z:Bool} {t:Nat}:Cn ⟨2,n,nm,z,t,[]⟩
 | idx {n:Int} {nm:List UInt8} {z:Bool} {t:Nat} {a:Xp}:Cn a->Cn ⟨3,n,nm,z,t,[a]⟩
 | un {op n:Int} {nm:List UInt8} {z:Bool} {t:Nat} {a:Xp}:op=4\/op=5->Cn a->Cn ⟨op,n,nm,z,t,[a]⟩
 | bin {op n:Int} {nm:List UInt8} {z:Bool} {t:Nat} {a b:Xp}:6<=op/\op<=18->Cn a->Cn b->Cn ⟨op,n,nm,z,t,[a,b]⟩
/-! statements -/
structure Sp where
 op:Int
 line:Int
 nm:List UInt8
 arg:List UInt8
 iz:Bool
 it:Nat
 idx:List Xp
 ex:Xp
 bz:Bool
 bt:Nat
 body:List Sp
 ez:Bool
 et:Nat
 els:List Sp
mutual
def Sp.row:Sp->List V
 | ⟨op,line,nm,arg,iz,it,idx,ex,bz,bt,body,ez,et,els⟩=>[.int .i64 op,.int .i64 line,.str nm,.str arg,SL iz it (idx.map Xp.row)]++ex.row++[SL bz bt (Sp.rows body),SL ez et (Sp.rows els)]
def Sp.rows:List Sp->List (List V)
 | []=>[]
 | x::l=>x.row::Sp.rows l
end
def Ag4:∀ l:List Sp,Sp.rows l=l.map Sp.row
 | []=>rfl
 | x::l=>by rw[Sp.rows,Ag4 l];rfl
def Q4(s:Sp):s.row=[iV s.op,iV s.line,.str s.nm,.str s.arg,SL s.iz s.it (s.idx.map Xp.row)]++s.ex.row++[SL s.bz s.bt (s.body.map Sp.row),SL s.ez s.et (s.els.map Sp.row)]:=by
 rw[<-Ag4,<-Ag4];cases s;rfl
def C8(op:Int):List UInt8:=
 match op with
 | 2=>[105,102] | 3=>[119,104,105,108,101] | 4=>[108,111,99,107] | 5=>[114,101,97,100] | 6=>[119,114,105,116,101] | 7=>[116,114,97,110,115,97,99,116,105,111,110] | 8=>[97,116,111,109,105,99] | 9=>[119,97,105,116] | 10=>[110,111,116,105,102,121] | 11=>[110,111,116,105,102,121,97,108,108] | 12=>[115,112,97,119,110] | 13=>[106,111,105,110] | 14=>[115,101,116] | 15=>[103,101,116] | _=>[]
def F4(l:List Xp):List UInt8:=match l with
 | a::_=>91::(a.txt++[93])
 | []=>[]
def Cv(s:Sp):List UInt8:=
 if s.op=1 then s.nm++(F4 s.idx++32::61::32::s.ex.txt)
 else if s.op=2\/s.op=3 then C8 s.op++32::s.ex.txt
 else if s.op=7\/s.op=8 then C8 s.op
 else if s.op=14 then C8 s.op++32::(s.nm++32::s.ex.txt)
 else if s.op=15 then C8 s.op++32::(s.nm++32::s.arg)
 else C8 s.op++32::s.nm
def El(d:Nat):List UInt8:=List.replicate (2*d) 32
def B4(op:Int):Bool:=decide (2<=op)&&decide (op<=8)
mutual
def Sp.txt:Nat->Sp->List UInt8
 | d,⟨op,line,nm,arg,iz,it,idx,ex,bz,bt,body,ez,et,els⟩=>
  El d++(Cv ⟨op,line,nm,arg,iz,it,idx,ex,bz,bt,body,ez,et,els⟩ ++
   if B4 op then 32::123::10::(Sp.txts (d+1) body++((if els.isEmpty then [] else El d++125::32::101::108::115::101::32::123::10::Sp.txts (d+1) els)++(El d++[125,10]))) else [59,10])
def Sp.txts:Nat->List Sp->List UInt8
 | _,[]=>[]
 | d,x::l=>x.txt d++Sp.txts d l
end
inductive CnS:Sp->Prop
 | mk {s:Sp}:1<=s.op/\s.op<=15->s.idx.length<=1->(s.op≠1->s.idx=[])->(∀ x∈s.idx,Cn x)->((s.op=1\/s.op=2\/s.op=3\/s.op=14)->Cn s.ex)->(B4 s.op=false->s.body=[])->(s.op≠2->s.els=[])->(∀ x∈s.body,CnS x)->(∀ x∈s.els,CnS x)->CnS s
/-! declarations, threads, programs -/
structure Dp where
 kind:Int
 line:Int
 nm:List UInt8
 size:Int
 init:Int
 on:List UInt8
def Dp.row(d:Dp):List V:=[iV d.kind,iV d.line,.str d.nm,iV d.size,iV d.init,.str d.on]
def Lb(n:Int):List UInt8:=if n=0 then [] else 32::61::32::C2 n
def Fu(d:Dp):List UInt8:=
 if d.kind=1 then [118,97,114,32]++(d.nm++((if d.size=0 then [] else 91::(C2 d.size++[93]))++Lb d.init))
 else if d.kind=2 then [118,111,108,97,116,105,108,101,32]++(d.nm++Lb d.init)
 else if d.kind=3 then [109,117,116,101,120,32]++d.nm
 else if d.kind=4 then [114,119,108,111,99,107,32]++d.nm
 else if d.kind=5 then [99,111,110,100,32]++(d.nm++32::d.on)
 else [102,117,116,117,114,101,32]++d.nm
structure CnD (d:Dp):Prop where
 kind:1<=d.kind/\d.kind<=6
 size:0<=d.size/\d.size<=9223372036854775807/\(d.kind≠1->d.size=0)
 init : -9223372036854775808<=d.init/\d.init<=9223372036854775807/\(d.kind≠1->d.kind≠2->d.init=0)
structure Tp where
 nm:List UInt8
 line:Int
 lz:Bool
 lt:Nat
 locals:List (List UInt8)
 bz:Bool
 bt:Nat
 body:List Sp
def Tp.row(t:Tp):List V:=[.str t.nm,iV t.line,SL t.lz t.lt (t.locals.map fun s=>[V.str s]),SL t.bz t.bt (t.body.map Sp.row)]
def Fb:List (List UInt8)->List UInt8
 | []=>[]
 | [a]=>a
 | a::b::l=>a++44::32::Fb (b::l)
def Fj(t:Tp):List UInt8:=[116,104,114,101,97,100,32]++(t.nm++40::(Fb t.locals++41::32::123::10::(Sp.txts 1 t.body++[125,10])))
structure Gp where
 dz:Bool
 dt:Nat
 decls:List Dp
 tz:Bool
 tt:Nat
 thrs:List Tp
def Gp.row(p:Gp):List V:=[SL p.dz p.dt (p.decls.map Dp.row),SL p.tz p.tt (p.thrs.map Tp.row)]
def Hp(p:Gp):List UInt8:=(p.decls.map fun d=>Fu d++[59,10]).flatten++(p.thrs.map Fj).flatten
structure CnG (p:Gp):Prop where
 decls:∀ d∈p.decls,CnD d
 thrs:∀ t∈p.thrs,∀ s∈t.body,CnS s
def Rn{x:Xp}(h:Cn x):1<=x.op/\x.op<=18:=by
 cases h with
 | num _=>exact⟨by simp,by simp⟩
 | name=>exact⟨by simp,by simp⟩
 | idx _=>exact⟨by simp,by simp⟩
 | un h _=>simp only;omega
 | bin h _ _=>simp only;omega
def Zh{op:Int}(h:1<=op/\op<=18):∃ i:Nat,i<18/\op=(i:Int)+1:=⟨(op - 1).toNat,by omega,by omega⟩
def A0c:((List.range 18).all fun i=>match (Jz (Mw TT PT 300) af184 [iV ((i:Int)+1)] []).bind fun p=>Ex p.2 p.1 with
  | some (.tup [.str s,.int .i64 n])=>s==Cs ((i:Int)+1)&&n==Bw ((i:Int)+1)
  | _=>false)=true:=by kernel_rfl
def V2{op:Int}(h:1<=op/\op<=18):Fn TT PT 184 [iV op] (.tup [.str (Cs op),iV (Bw op)]):=by
 obtain⟨i,hi,rfl⟩:=Zh h;have hr:=Bp.1 A0c i (E1.2 hi)
 split at hr
 .rename_i s n hv;simp only[Af,beq_iff_eq]at hr;rw[<-hr.1,<-hr.2];exact Pm Qj T184 rfl rfl hv
 .cases hr
def A7o:((List.range 18).all fun i=>match (Jz (Mw TT PT 300) af243 [iV ((i:Int)+1)] []).bind fun p=>Ex p.2 p.1 with
  | some (.agg [.str s,.int .i64 n])=>s==Cs ((i:Int)+1)&&n==Bw ((i:Int)+1)
  | _=>false)=true:=by kernel_rfl
def Wt{op:Int}(h:1<=op/\op<=18):Fn TT PT 243 [iV op] (.agg [.str (Cs op),iV (Bw op)]):=by
 obtain⟨i,hi,rfl⟩:=Zh h;have hr:=Bp.1 A7o i (E1.2 hi)
 split at hr
 .rename_i s n hv;simp only[Af,beq_iff_eq]at hr;rw[<-hr.1,<-hr.2];exact Pm Qj T243 rfl rfl hv
 .cases hr
def A7p:((List.range 18).all fun i=>decide ((Cs ((i:Int)+1)).length<=2/\1<=Bw ((i:Int)+1)/\Bw ((i:Int)+1)<=7))=true:=by decide
def Adn{op:Int}(h:1<=op/\op<=18):(Cs op).length<=2/\1<=Bw op/\Bw op<=7:=by
 obtain⟨i,hi,rfl⟩:=Zh h;exact of_decide_eq_true (Bp.1 A7p i (E1.2 hi))
def Du(x:Xp):Dl (.agg x.row)=true:=by
 rw[Bf];simp only[go_sem]
def Aq{a b c:List UInt8}(h:a.length+b.length<=9223372036854775807)(hc:a++b=c):Ao .add a b=some (.str c):=by
 simp only[Ao];rw[if_pos h,hc]
def Nh(o:Int × List UInt8)(qa:Int):o.2.length<=(D7 o qa).length/\(D7 o qa).length<=o.2.length+2:=by
 unfold D7
 split
 .simp only[Am,Al,C9];omega
 .omega
def Aja{x:Xp}(he:Fn TT PT 157 [.agg x.row] (.str x.txt))(ho:1<=x.op/\x.op<=18)(hl:x.txt.length<=1000000000000000)(qa:Int):Fn TT PT 185 [.agg x.row,iV qa] (.str (D7 (x.op,x.txt) qa)):=by
 have hs:=V2 ho;have qA:=Du x;rw[Bf]at he qA ⊢;refine Bo T185 rfl ?_;have a1:Ao .add [40] x.txt=some (.str (40::x.txt)):=Aq (by simp;omega) rfl;have a2:Ao .add (40::x.txt) [41]=some (.str (40::(x.txt++[41]))):=Aq (by simp;omega) (by simp);unfold D7;by_cases h:Bw x.op<qa
 .rw[if_pos h];have f:(Bw x.op<qa)=True:=eq_true h;simp only[go_sem];refine Ad hs (by simp only[go_sem]) ?_;simp only[go_sem,f];refine Ad he (by simp only[go_sem]) ?_;simp only[go_sem,↓a1,↓a2];exact Gm rfl
 .rw[if_neg h];have f:(Bw x.op<qa)=False:=eq_false h;simp only[go_sem];refine Ad hs (by simp only[go_sem]) ?_;simp only[go_sem,f];refine Ad he (by simp only[go_sem]) ?_;simp only[go_sem];exact Gm rfl
set_option maxHeartbeats 4000000 in
def Yg{x:Xp}(h:Cn x):x.txt.length<=1000000000000000->Fn TT PT 157 [.agg x.row] (.str x.txt):=by
 induction h with
 | @num n nm z t hn=>
  intro hl;have hs:=V2 (op:=1) (by omega);rw[Bf,Fq];simp only[B7,Ed,if_true];refine Bo T157 rfl ?_;have hf:Oz [iV n,iV 10]=some (.str (C2 n)):=by unfold Oz;exact if_pos hn
  simp only[go_sem];refine Ad hs (by simp only[go_sem]) ?_;simp only[go_sem,Int.reduceBEq];refine F7 P73 (by simp only[go_sem]) hf ?_;simp only[go_sem];exact Gm rfl
 | @name n nm z t=>
  intro hl;have hs:=V2 (op:=2) (by omega);rw[Bf,Fq];simp only[B7,Ed];refine Bo T157 rfl ?_;simp only[go_sem];refine Ad hs (by simp only[go_sem]) ?_;simp only[go_sem,Int.reduceBEq];exact Gm rfl
 | @idx n nm z t a ha ih=>
  intro hl;have hs:=V2 (op:=3) (by omega);rw[Bf];rw[Fq]at hl ⊢;simp only[Bb,B7,Ed]at hl ⊢;have hl:nm.length+a.txt.length+2<=1000000000000000:=by simp at hl;omega
  have hi:=ih (by omega);rw[Bf a]at hi ⊢;refine Bo T157 rfl ?_;simp only[go_sem];refine Ad hs (by simp only[go_sem]) ?_;simp only[go_sem,Int.reduceBEq];have a1:Ao .add nm [91]=some (.str (nm++[91])):=Aq (by simp;omega) rfl;have a2:Ao .add (nm++[91]) a.txt=some (.str (nm++91::a.txt)):=Aq (by simp;omega) (by simp);have a3:Ao .add (nm++91::a.txt) [93]=some (.str (nm++91::(a.txt++[93]))):=Aq (by simp;omega) (by simp);refine Ag (by kernel_rfl) ?_;simp only[go_sem,↓a1];refine Bk hi (by simp only[go_sem]) ?_;simp only[go_sem,↓a2,↓a3];exact Gm rfl
 | @un op n nm z t a qI ha ih=>
  intro hl;have ho:1<=op/\op<=18:=by omega
  have hs:=V2 ho
  have qz:Bw op=6:=by rcases qI with rfl | rfl<;>rfl
  rw[qz]at hs;obtain⟨s1,-,-⟩:=Adn ho;rw[Bf];rw[Fq]at hl ⊢
  have e1:Ed op n nm [(a.op,a.txt)]=Cs op++D7 (a.op,a.txt) 6:=by
   unfold Ed;rw[if_neg (by omega),if_neg (by omega)];simp only;rw[if_neg (by omega)]
  simp only[Bb,B7,e1,Al]at hl ⊢;obtain⟨p1,p2⟩:=Nh (a.op,a.txt) 6;have hi:=Aja (ih (by simp only at p1;omega)) (Rn ha) (by simp only at p1;omega) 6;rw[Bf a]at hi ⊢;refine Bo T157 rfl ?_;have b1:(op==1)=false:=by simp;omega
  have b2:(op==2)=false:=by simp;omega
  have b3:(op==3)=false:=by simp;omega
  simp only[go_sem];refine Ad hs (by simp only[go_sem]) ?_;simp only[go_sem,Int.reduceBEq,b1,b2,b3];refine Ad hi (by simp only[go_sem]) ?_;have a1:Ao .add (Cs op) (D7 (a.op,a.txt) 6)=some (.str (Cs op++D7 (a.op,a.txt) 6)):=Aq (by omega) rfl;simp only[go_sem,↓a1];exact Gm rfl
 | @bin op n nm z t a b qI ha hb iha ihb=>
  intro hl;have ho:1<=op/\op<=18:=by omega
  have hs:=V2 ho;obtain⟨s1,s2,s3⟩:=Adn ho
  have qz:Bw op<6:=by
   obtain⟨i,hi,rfl⟩:=Zh ho;have:((List.range 18).all fun i=>decide (5<=i->Bw ((i:Int)+1)<6))=true:=by decide
   exact of_decide_eq_true (Bp.1 this i (E1.2 hi)) (by omega)
  rw[Bf];rw[Fq]at hl ⊢
  have e1:Ed op n nm [(a.op,a.txt),(b.op,b.txt)]=D7 (a.op,a.txt) (Ho op)++32::(Cs op++32::D7 (b.op,b.txt) (Bw op+1)):=by
   unfold Ed;rw[if_neg (by omega),if_neg (by omega)]
  simp only[Bb,B7,e1,Al,Am]at hl ⊢;obtain⟨p1,p2⟩:=Nh (a.op,a.txt) (Ho op);obtain⟨q1,q2⟩:=Nh (b.op,b.txt) (Bw op+1);simp only at p1 q1;have hi:=Aja (iha (by omega)) (Rn ha) (by omega) (Ho op);have hj:=Aja (ihb (by omega)) (Rn hb) (by omega) (Bw op+1);rw[Bf a]at hi ⊢;rw[Bf b]at hj ⊢;refine Bo T157 rfl ?_;have b1:(op==1)=false:=by simp;omega
  have b2:(op==2)=false:=by simp;omega
  have b3:(op==3)=false:=by simp;omega
  have b6:(Bw op==6)=false:=by simp;omega
  have f6:(Bw op<6)=True:=eq_true qz;have w1:IntKind.i64.wrap (Bw op+1)=Bw op+1:=Ch (by omega);generalize D7 (a.op,a.txt) (Ho op)=pa at hl hi p1 p2 ⊢;generalize D7 (b.op,b.txt) (Bw op+1)=pb at hl hj q1 q2 ⊢;have a1:Ao .add pa [32]=some (.str (pa++[32])):=Aq (by simp;omega) rfl;have a2:Ao .add (pa++[32]) (Cs op)=some (.str (pa++32::Cs op)):=Aq (by simp;omega) (by simp);have a3:Ao .add (pa++32::Cs op) [32]=some (.str (pa++32::(Cs op++[32]))):=Aq (by simp;omega) (by simp);have a4:Ao .add (pa++32::(Cs op++[32])) pb=some (.str (pa++32::(Cs op++32::pb))):=Aq (by simp;omega) (by simp);cases h3:(Bw op==3)
  all_goals
   have qj:Ho op=(if(Bw op==3)=true then 4 else Bw op):=by unfold Ho;simp
   rw[h3]at qj;simp only[if_true,if_false,F6]at qj;rw[qj]at hi;simp only[go_sem];refine Ad hs (by simp only[go_sem]) ?_;simp only[go_sem,Int.reduceBEq,b1,b2,b3,b6,f6,h3];refine Ag (by kernel_rfl) ?_;simp only[go_sem];refine Bk hi (by simp only[go_sem]) ?_;simp only[go_sem,↓a1,↓a2,↓a3,w1];refine Bk hj (by simp only[go_sem]) ?_;simp only[go_sem,↓a4];exact Gm rfl
def Ayp(k:IntKind)(n d:Nat):Dq (some (.int k (n:Int))) d=some n:=by
 simp only[Dq];rw[if_pos (by omega),Md]
attribute [go_sem ↓] Ayp
attribute [go_sem] U9 Au Afw
