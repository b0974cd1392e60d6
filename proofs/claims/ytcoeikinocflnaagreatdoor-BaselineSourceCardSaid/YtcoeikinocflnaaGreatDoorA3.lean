/- THE PLAIN MACHINE, joined texts: Kr Kt Ks Ku Kv Kw Kx. -/
import Derived.Test.YtcoeikinocflnaaGreatDoorA2
import Derived.Scope
set_option linter.all false
/- THE PLAIN MACHINE IS RIGHT: the theorem. -/
namespace Go.Proofs.YtcoeikinocflnaaGreatDoor.KM
open Go Go.RowKit
variable {P:Program} {G:List (Nat × List V)} {T:Nat->Option AF} {pr:Nat->Option (List V->Option V)}
theorem Ag8{n:Nat}{ops:Array Oper}:∀ (ais:List AI) (os:List Oper) (k:Nat),Ij P G n ops ais os=true->ops.toList.drop k=os->ML P G n ops ais (List.range' k os.length)
 | [],[],_,_,_=>trivial
 | i::ais,o::os,k,h,hd=>by
  simp only[Ij,Af]at h
  have hk:ops[k]?=some o:=by
   have:(ops.toList.drop k)[0]?=some o:=by rw[hd];rfl
   simpa using this
  refine⟨⟨o,hk,h.1⟩,Ag8 ais os (k+1) h.2 ?_⟩;rw[<-Qn,hd];rfl
 | [],_::_,_,h,_=>by simp[Ij]at h
 | _::_,[],_,h,_=>by simp[Ij]at h
theorem Af5{n:Nat}{ops:Array Oper}:∀ {ais:List AI} {os:List Oper},Ij P G n ops ais os=true->ais.length=os.length/\∀ (i:Nat) (o:Oper),os[i]?=some o->∃ ai,ais[i]?=some ai/\Sf P G n ops ai o=true
 | [],[],_=>⟨rfl,fun i o h=>by simp at h⟩
 | a::ais,o::os,h=>by
  simp only[Ij,Af]at h;obtain⟨l,g⟩:=Af5 h.2;refine⟨by simp[l],fun i o' ho=>?_⟩
  cases i with
  | zero=>simp at ho;subst ho;exact⟨a,rfl,h.1⟩
  | succ i=>simpa using g i o' (by simpa using ho)
 | [],_::_,h=>by simp[Ij]at h
 | _::_,[],h=>by simp[Ij]at h
theorem Aiq{n:Nat}{ops:Array Oper}{ais:List AI}(h:Ij P G n ops ais ops.toList=true):∀ (L:List Nat),(∀ i∈L,i<ops.size)->ML P G n ops (C5 ais L) L
 | [],_=>trivial
 | j::L,hL=>by
  have hj:=hL j (by simp);obtain⟨ai,h1,h2⟩:=(Af5 h).2 j ops[j] (by simp[hj]);unfold C5;rw[Jh,h1];exact⟨⟨ops[j],Array.getElem?_eq_getElem hj,h2⟩,Aiq h L (fun i hi=>hL i (by simp[hi]))⟩
theorem Ajy(deps:List (List Nat)):∀ (fuel t:Nat) (acc:List Nat),(∀ i∈acc,i<deps.length)->∀ i∈Lz deps fuel t acc,i<deps.length
 | 0,_,acc,h=>fun i hi=>h i (by simpa[Lz] using hi)
 | fuel+1,t,acc,h=>by
  intro i hi;unfold Lz at hi;simp only at hi
  split at hi
  ·rename_i j hj;refine Ajy deps fuel _ (j::acc) (fun k hk=>?_) i hi;rcases Be.1 hk with rfl | hk
   ·have:=(Qm.1 (Gq hj)).1;simpa using this
   ·exact h k hk
  ·exact h i (by simpa using hi)
theorem Afe:∀ (vs:List V) (k n:Nat),(C2 k vs).get n=if k<=n then vs.getD (n - k) .und else .und
 | [],k,n=>by simp[C2,Env.get]
 | v::vs,k,n=>by
  simp only[C2,Env.get];by_cases h:k=n
  ·subst h;simp
  ·rw[if_neg h,Afe vs (k+1) n];by_cases h2:k+1<=n
   ·rw[if_pos h2,if_pos (by omega)];rw[show n - k=(n - (k+1))+1 by omega];simp
   ·rw[if_neg h2];rw[if_neg (by omega)]
section
variable {n:Nat} {c:Code}
theorem Aps(h:Db P G n .skip c=true):c=.skip\/∃ l,c=.label l:=by
 cases c<;>simp[Db]at h
 ·exact .inl rfl
 ·exact .inr ⟨_,rfl⟩
theorem Aoa{b:Frame}{a:Act}{k:List Item}{cs:List Frame}{w:World}(h:c=.skip\/∃ l,c=.label l):step P (lone (b.at a (.code c::k)) cs w)=.next (lone (b.at a k) cs w):=by
 rcases h with rfl | ⟨l,rfl⟩
 ·exact step_skip
 ·exact step_label
theorem Ast{kill:List Nat}{ais:List AI}(h:Db P G n (.reg kill ais) c=true):∃ id ops,c=.region id ops false/\Ij P G n ops ais ops.toList=true:=by
 cases c with
 | region id ops d=>
  cases d with
  | false=>exact⟨id,ops,rfl,h⟩
  | true=>cases h
 | _=>cases h
theorem Asu{kill:List Nat}{deps:List (List Nat)}{ais:List AI}(h:Db P G n (.drw kill deps ais) c=true):∃ id ops,c=.region id ops true/\Ij P G n ops ais ops.toList=true/\Ms deps ops.toList=true/\P.follows .mixedOrders=true:=by
 cases c with
 | region id ops d=>
  cases d with
  | false=>cases h
  | true=>
   simp only[Db,Af]at h;exact⟨id,ops,rfl,h⟩
 | _=>cases h
theorem Asv{x y:AC}(h:Db P G n (.seq x y) c=true):∃ c1 c2,c=.seq c1 c2/\Db P G n x c1=true/\Db P G n y c2=true:=by
 cases c<;>simp[Db]at h
 exact⟨_,_,rfl,h⟩
theorem Apt{s:S}{kill:List Nat}{x y:AC}(h:Db P G n (.cond s kill x y) c=true):∃ o c1 c2,c=.cond o c1 c2/\Bo G s o=true/\Db P G n x c1=true/\Db P G n y c2=true:=by
 cases c<;>simp[Db]at h
 exact⟨_,_,_,rfl,h⟩
theorem Asw{id:Nat}{x:AC}(h:Db P G n (.blk id x) c=true):(∃ c1,c=.block id c1/\Db P G n x c1=true)\/∃ c1,c=.scope c1/\1000000<=id/\Db P G n x c1=true:=by
 cases c<;>simp[Db]at h
 ·obtain⟨rfl,h⟩:=h;exact .inl ⟨_,rfl,h⟩
 ·exact .inr ⟨_,rfl,h⟩
theorem Apu{keep:List Nat}{x:AC}(h:Db P G n (.loop keep x) c=true):∃ c1,c=.loop c1/\Db P G n x c1=true:=by
 cases c<;>simp[Db]at h
 exact⟨_,rfl,h⟩
theorem Apv{id:Nat}(h:Db P G n (.exit id) c=true):c=.exit id/\id<1000000:=by
 cases c<;>simp[Db]at h
 obtain⟨rfl,h⟩:=h;exact⟨rfl,h⟩
theorem Asx(h:Db P G n .ret c=true):c=.ret:=by cases c<;>simp[Db]at h;rfl
end
theorem Ext.len{N:Nat}{γ γ':Gh}{σ σ':St}{w w':World}(hI:Inv G N γ σ w)(h:Inv G N γ' σ' w')(hx:Ext γ w γ' w'):σ.length<=σ'.length:=by
 rw[<-hI.len,<-h.len];rcases Sz γ.O.length with h0 | h0
 ·omega
 ·obtain⟨b1,g1,h1,_⟩:=hx.obj (γ.O.length - 1) (γ.O[γ.O.length - 1]'(by omega)).1 (γ.O[γ.O.length - 1]'(by omega)).2 (A0 _);have:=(Ar.1 h1).1;omega
theorem Af6{N:Nat}{γ γ':Gh}{σ:St}{w w':World}{X:List (Nat × Nat)}(hI:Inv G N γ σ w)(hx:Ext γ w γ' w'):Ext γ w ⟨γ'.κ,γ'.O.take σ.length++X⟩ w':=
 ⟨hx.kap,hx.cell,fun i blk g hi=>by
  obtain⟨b1,g1,h1,h2,h3⟩:=hx.obj i blk g hi;have hil:i<σ.length:=by rw[<-hI.len];exact(Ar.1 hi).1
  refine⟨b1,g1,?_,h2,h3⟩;show(γ'.O.take σ.length++X)[i]?=_;rw[Co (by have:=(Ar.1 h1).1;simp;omega),Ep,if_pos hil]
  exact h1⟩
theorem Ws{n:Nat}{js is:List Nat}(h:D7 n js is=true):∀ i∈is,i<n\/i∈js:=fun i hi=>by
 have:=Bd.1 h i hi;simp only[Hb,decide_eq_true_eq,Gb]at this;exact this
theorem Af7{N:Nat}{γ γ':Gh}{σ σ':St}{w w':World}{v:V}{u:Value}(hI:Inv G N γ σ w)(h:Inv G N γ' σ' w')(hx:Ext γ w γ' w')(hv:D7 σ.length [] v.refs=true)
  (hb:∀ i ob,i<σ.length->σ'[i]?=some ob->σ[i]?=some ob\/D7 σ.length [] ob.refs=true) (hr:RepV γ' w' v u) :
  ∃ γ2,RepV γ2 w' v u/\Inv G N γ2 (σ'.take σ.length) w'/\Ext γ w γ2 w'/\∀ b,γ2.κ b=γ'.κ b:=by
 obtain⟨i1,i2⟩:=h.leave (n:=σ.length) (js:=[]) (ρ:=fun i=>i) (Ext.len hI h hx) (fun i hi=>by cases hi) Qo (fun _ _=>rfl) (fun k hk=>by simp at hk) (fun i ob hi ho j hj=>by
  rcases hi with hi | hi
  ·rcases hb i ob hi ho with h1 | h1
   ·obtain⟨p,_,hok⟩:=hI.of h1;exact .inl (by rw[<-hI.len];exact hok.refs_lt j hj)
   ·exact Ws h1 j hj
  ·cases hi)
 have e1:(σ'.take σ.length++([]:List Nat).filterMap (σ'[·]?)).map (Ob.ren fun i=>i)=σ'.take σ.length:=by
  simp only[V6,Cw];have:(Ob.ren fun i=>i)=id:=funext Af4;rw[this,List.map_id]
 rw[e1]at i1;have hr2:=hr.renum (O:=γ'.O.take σ.length++([]:List Nat).filterMap (γ'.O[·]?)) (ρ:=fun i=>i) (fun i hi p hp=>i2 i (Ws hv i hi) p hp);rw[Aca]at hr2;exact⟨_,hr2,i1,Af6 hI hx,fun _=>rfl⟩
theorem Af8{N:Nat}{γ γ':Gh}{σ σ':St}{w w':World}{v:V}{u:Value}{js:List Nat}(hI:Inv G N γ σ w)(h:Inv G N γ' σ' w')(hx:Ext γ w γ' w')(hl:Gs σ.length js v σ'=true)(hr:RepV γ' w' v u):
  ∃ γ2,RepV γ2 w' (v.ren (ren σ.length js)) u/\Inv G N γ2 ((σ'.take σ.length++js.filterMap (σ'[·]?)).map (Ob.ren (ren σ.length js))) w'/\Ext γ w γ2 w'/\∀ b,γ2.κ b=γ'.κ b:=by
 unfold Gs at hl;simp only[Af,decide_eq_true_eq,Bd]at hl;obtain⟨_,hv,hobs,hnd,hjs⟩:=hl
 obtain⟨i1,i2⟩:=h.leave (n:=σ.length) (js:=js) (ρ:=ren σ.length js) (Ext.len hI h hx) hjs hnd (fun i hi=>by simp[ren,hi]) (fun k hk=>by
  have hk2:=(hjs js[k] (Fa hk)).1;unfold ren;rw[if_neg (by omega)];congr 1;have hf:js.findIdx (·==js[k])<js.length:=List.findIdx_lt_length_of_exists ⟨js[k],Fa hk,by simp⟩;have hg:=List.findIdx_getElem (w:=hf);have hg':js[js.findIdx (·==js[k])]=js[k]:=by simpa using hg
  exact Afy hnd (A0 hf) (by rw[hg'];exact A0 hk)) (fun i ob hi ho j hj=>by
  refine Ws (hobs ob ?_) j hj;rw[Cq];rcases hi with hi | hi
  ·exact .inl (Gq (by rw[Ep,if_pos hi];exact ho))
  ·exact .inr (List.mem_filterMap.2 ⟨i,hi,ho⟩))
 exact⟨_,hr.renum (fun i hi p hp=>i2 i (Ws hv i hi) p hp),i1,Af6 hI hx,fun _=>rfl⟩
theorem Mg:∀ (js:List Nat) (σ:St),(σ.freeze js).length=σ.length
 | [],_=>rfl
 | i::js,σ=>by
  simp only[St.freeze]
  split
  ·rw[Mg js,Gr]
  ·exact Mg js σ
theorem Apw{γ:Gh}{w w1:World}{κ:Dy}{O:List (Nat × Nat)}(h:Ext γ w ⟨κ,O⟩ w1)(O':List (Nat × Nat)):Ext γ w ⟨κ,O++O'⟩ w1 where
 kap:=h.kap
 cell:=h.cell
 obj:=fun i blk g hi=>by
  obtain⟨b',g',h1,h2,h3⟩:=h.obj i blk g hi;exact⟨b',g',by rw[Co (Ar.1 h1).1];exact h1,h2,h3⟩
theorem Apx{N M:Nat}{O:List (Nat × Nat)}{γ':Gh}{σ σ0:St}{w1:World}(h1:Inv G N ⟨γ'.κ,O⟩ σ w1)(h2:Inv G M γ' σ0 w1)(hM:∀ (i:Nat) (p:Nat × Nat),O[i]?=some p->p.1<M)(hNM:N<=M):
  Inv G N ⟨γ'.κ,O++γ'.O⟩ (σ++σ0.map (Ob.ren (·+σ.length))) w1 where
 base:=h1.base
 len:=by
  have e1:=h1.len;have e2:=h2.len;simp only[Ao,Bl]at e1 ⊢;omega
 nd:=by
  rw[Fb,List.nodup_append];refine⟨h1.nd,h2.nd,fun a ha b hb=>?_⟩;obtain⟨p,hp,rfl⟩:=D6.1 ha;obtain⟨q,hq,rfl⟩:=D6.1 hb;obtain⟨i,hi,rfl⟩:=Ng hp;obtain⟨j,hj,rfl⟩:=Ng hq;have:=hM i _ (A0 hi);have:=h2.low j _ (A0 hj);omega
 low:=fun i p hp=>by
  by_cases hi:i<O.length
  ·exact h1.low i p (by rw[Co hi]at hp;exact hp)
  ·rw[Cf (by omega)]at hp;exact Cj hNM (h2.low _ p hp)
 obj:=fun i ob p hs hp=>by
  have hl:O.length=σ.length:=h1.len;by_cases hi:i<σ.length
  ·rw[Co hi]at hs;rw[Co (by omega)]at hp;have:=(h1.obj i ob p hs hp).renum (O:=O++γ'.O) (ρ:=fun i=>i) (fun j _ q hq=>by rw[Co (Ar.1 hq).1];exact hq);rw[Af4]at this;exact this
  ·rw[Cf (by omega),Bb]at hs;rw[Cf (by omega)]at hp;obtain⟨ob0,h0,rfl⟩:=Bm.1 hs
   exact(h2.obj _ ob0 p h0 (by rw[<-hl];exact hp)).renum (O:=O++γ'.O) (ρ:=(·+σ.length)) (fun j _ q hq=>by
    rw[Cf (by omega)];show γ'.O[j+σ.length - O.length]?=some q;rw[hl,Nat.add_sub_cancel]
    exact hq)
 dom:=h1.dom
 glob:=fun g r hg=>by
  obtain⟨b,o,k,row,hu,a1,a2,a3,a4⟩:=Jk (h1.glob g r hg);rw[hu];exact .imm row a1 a2 a3 a4
 gsz:=h1.gsz
theorem Xm(hT:∀ f F,T f=some F->F.spec=none->M7 P G f F=true){f:Nat}{args:List V}{σ σ' σ2:St}{e':Env}{F:AF}{v v2:V}(hF:T f=some F)(hsp:F.spec=none)(hl:args.length=F.pars)(hres:B6 e' σ' F.res=some v)(hok0:Cc v=true)
  (hk:∀ (γ γ':Gh) (w w':World) (N:Nat) (u:Value),Inv G N γ σ w->Inv G N γ' σ' w'->Ext γ w γ' w'->RepV γ' w' v u->∃ γ2,RepV γ2 w' v2 u/\Inv G N γ2 σ2 w'/\Ext γ w γ2 w'/\∀ b,b<N->γ2.κ b=γ'.κ b)
  (ih:Acx P G (.code [.c F.body] (C2 0 args) σ e' σ')):Acx P G (.fn f args σ v2 σ2):=by
 intro us w γ N hlen hrep hI;obtain⟨fn,c,hf,hb,hC,hR,hpars,hn⟩:=Tw (hT f F hF hsp);intro cs
 let b:Frame:={ (default:Frame) with fn:=f,kind:=.normal }
 have hsz:(us.toArray++Array.replicate (fn.ntmps - us.toArray.size) undef).size=fn.ntmps:=by simp;omega
 have henter:Frame.enter P f us.toArray .normal=b.at { tmps:=us.toArray++Array.replicate (fn.ntmps - us.toArray.size) undef,defers:=[] } [.code c]:=by
  simp[Frame.enter,Frame.at,hf,hb,b]
 have hE0:RepE γ w (C2 0 args) (us.toArray++Array.replicate (fn.ntmps - us.toArray.size) undef):=fun m=>by
  rw[Afe,if_pos (A2 _),Aac];by_cases hm:m<args.length
  ·have:=hrep m hm
   have e1:(us.toArray++Array.replicate (fn.ntmps - us.toArray.size) undef).getD m undef=us.getD m undef:=by
    rw[Array.getD_eq_getD_getElem?,Array.getElem?_append_left (by simp;omega),Ot,Aq]
   rw[e1];exact this
  ·rw[show args.getD m .und=.und by rw[Aq,Ou (by omega)];rfl];exact .und
 obtain⟨a',w',todo',hs,γ',g1,g2,g3,g4,g5,g6,g7⟩:=ih fn.ntmps [] [.code c] { tmps:=us.toArray++Array.replicate (fn.ntmps - us.toArray.size) undef,defers:=[] } w γ N (.c hC .nil) hsz rfl hE0 hI b cs;rw[<-henter]at hs
 have hresults:∃ u,(results fn a'.tmps).run P w'=.ok u w'/\RepV γ' w' v u:=by
  have hmap:∀ us':List Value,(fn.results.toList.mapM (Us a'.tmps)).run P w'=.ok us' w'->(results fn a'.tmps).run P w'=.ok (if h:us'.toArray.size=1 then us'.toArray[0] else .tuple us'.toArray) w':=fun us' h=>by
   have e1:results fn a'.tmps=(do let vs <-fn.results.mapM (Us a'.tmps);pure (if h:vs.size=1 then vs[0] else .tuple vs)):=by
    unfold results;congr 2
   rw[e1,Array.mapM_eq_mapM_toList];simp[h]
  unfold B6 at hres
  split at hres
  ·rename_i r hr1;rw[hr1]at hR;have hm:[r].mapM (Fe e' σ')=some [v]:=by simp[hres]
   obtain⟨us',k1,k2,k3,k4⟩:=Abo (P:=P) g1 g2 hR hm;obtain⟨u,rfl⟩:=Zs.1 (show us'.length=1 by simpa using k2.symm);refine⟨u,by simpa using hmap [u] k1,?_⟩;simpa using k4 0 (by simp)
  ·rename_i rs hne;simp only[Bm]at hres;obtain⟨vs,hm,rfl⟩:=hres;obtain⟨us',k1,k2,k3,k4⟩:=Abo (P:=P) g1 g2 hR hm
   have hl1:us'.length≠1:=fun h1=>by
    have:F.res.length=1:=by
     have:=(Mn hm).1;omega
    obtain⟨r,hr⟩:=Zs.1 this;exact hne r hr
   refine⟨.tuple us'.toArray,by simpa[hl1] using hmap us' k1,.tup k2 (fun j hj=>?_)⟩;refine Ass ?_ (k4 j hj);have:=Bd.1 (show vs.all Hh=true from hok0) (vs.getD j .und) (by rw[Aq,A0 hj];exact Fa hj);exact this
 obtain⟨u,hu,hv⟩:=hresults;obtain⟨γ2,i1,i2,i3,i4⟩:=hk γ γ' w w' N u hI g2 g3 hv;exact⟨.returned u,w',_,⟨u,γ2,rfl,i1,i2,i3,g4,fun b hb=>(i4 b hb).trans (g5 b hb)⟩,hs,rfl,rfl,g7,rfl,fn,hf,hu⟩
theorem Ala(hT:∀ f F,T f=some F->F.spec=none->M7 P G f F=true)(hS:∀ f F s,T f=some F->F.spec=some s->Rw P G f s)(hpr:∀ f s,pr f=some s->Hi P G f s){j:J}(h:Ev T pr j):Acx P G j:=by
 induction h with
 | opsNil=>
  intro n D ops L a w γ N Q hM ha hd hE hI hQ
  cases L with
  | nil=>exact hQ a w ⟨γ,hE,hI,Ext.refl _ _,Below.refl _ _,fun _ _=>rfl,ha,hd⟩
  | cons=>exact hM.elim
 | opsSkip hw _ ih=>
  intro n D ops L a w γ N Q hM ha hd hE hI hQ;obtain⟨j,js,o,rfl,ho,hok,hM'⟩:=hM.tail;obtain⟨k1,k2,k3,k4⟩:=Ni hok;refine Avu ho (Nk k3 ha hE hw) ?_;obtain⟨p1,p2,p3⟩:=Nr (u:=undef) k2 ha hE .skp;rw[k1]at p1 p2 p3;exact ih n D ops js _ w γ N Q hM' p2 (p3.trans hd) (by rw[k1];exact p1) hI hQ
 | @opsVal i l e e' σ σ1 σ' v hw hv _ ih=>
  intro n D ops L a w γ N Q hM ha hd hE hI hQ;obtain⟨j,js,o,rfl,ho,hok,hM'⟩:=hM.tail;obtain⟨k1,k2,k3,k4⟩:=Ni hok;refine Pp (n:=n) ho (Nk k3 ha hE hw) ?_
  have k4':Se P G i.op o.op=true:=by
   split at k4
   ·rename_i f xs e1;rw[e1]at hv;simp[Ae]at hv
   ·rename_i s xs e1;rw[e1]at hv;simp[Ae]at hv
   ·exact k4
  obtain⟨u,w1,γ1,hr,hv1,hI1,hx1,hb1,hk1⟩:=Ay4 k4' hE hI hv;obtain⟨p1,p2,p3⟩:=Nr (u:=u) k2 ha (hE.ext hx1) hv1
  have next:wpOps P ops Q js (a.put o.dst u) w1:=by
   rw[<-k1];exact ih n D ops js _ w1 γ1 N Q hM' p2 (p3.trans hd) p1 hI1 (fun a' w' hl=>hQ a' w' (hl.after hx1 hb1 hk1))
  unfold Oper.wp;rcases hr with hr | ⟨hr,rfl⟩
  ·rw[hr];exact next
  ·rw[hr];exact next
 | @opsPrim i f args l e e' σ σ' s vs v hw hc hp hx hs _ ih=>
  intro n D ops L a w γ N Q hM ha hd hE hI hQ;obtain⟨j,js,o,rfl,ho,hok,hM'⟩:=hM.tail;obtain⟨k1,k2,k3,k4⟩:=Ni hok;refine Pp (n:=n) ho (Nk k3 ha hE hw) ?_;obtain⟨⟨fn,c,hf,hb,hn⟩,hprim⟩:=hpr f s hp;obtain⟨us,hrun,hul,hur⟩:=Qs (ops:=ops) (n:=n) k4 hc hE hI hf hb hn;obtain⟨κ1,z1,z2,z3,z4,_⟩:=hI.freeze (L5 σ args);obtain⟨ml,mg⟩:=Mn hx;unfold Oper.wp;rw[hrun];have hI0:=Aba z1;refine(hprim κ1 w vs us v hI0.glob (fun g r hg=>(hI0.gsz g r hg).2) z1.dom (by omega) (fun j hj=>?_) hs).mono ?_
  ·have hja:j<args.length:=by omega
   obtain⟨y,hy,hfy⟩:=mg j _ (A0 hja);rw[show vs.getD j .und=y by rw[Aq,hy];rfl];have:=hur j hja;rw[show args.getD j .und=args[j] by rw[Aq,A0 hja];rfl]at this;exact Te hI z2 z4 hfy this []
  rintro _ w1 ⟨u,κ',rfl,hu,hbl,hk,hdom⟩;obtain⟨γ1,q1,q2,q3,q4,q5⟩:=Afc (args:=args) hI z1 z2 z3 hbl hk hdom hu;obtain⟨p1,p2,p3⟩:=Nr (u:=u) k2 ha (hE.ext q2) q3;show wpOps P ops Q js (a.put o.dst u) w1;rw[<-k1];exact ih n D ops js _ w1 _ N Q hM' p2 (p3.trans hd) p1 q1 (fun a' w' hl=>hQ a' w' (hl.after q2 q5 q4))
 | @opsPure i f args l e e' σ σ0 σ' F vs v v' hw hc hF hthr hsp hx _ hv _ ihf ih=>
  intro n D ops L a w γ N Q hM ha hd hE hI hQ;obtain⟨j,js,o,rfl,ho,hok,hM'⟩:=hM.tail;obtain⟨k1,k2,k3,k4⟩:=Ni hok;refine Pp (n:=n) ho (Nk k3 ha hE hw) ?_;obtain⟨fn,c,hf,hb,_,_,_,hn⟩:=Tw (hT f F hF hsp);obtain⟨us,hrun,hul,hur⟩:=Qs (ops:=ops) (n:=n) k4 hc hE hI hf hb hn;obtain⟨κ1,z1,z2,z3,z4,_⟩:=hI.freeze (L5 σ args);obtain⟨ml,mg⟩:=Mn hx;unfold Oper.wp;rw[hrun];have hI0:=Aba z1;refine(ihf us w ⟨κ1,[]⟩ w.heap.size (by omega) (fun j hj=>?_) hI0).mono ?_
  ·have hja:j<args.length:=by omega
   obtain⟨y,hy,hfy⟩:=mg j _ (A0 hja);rw[show vs.getD j .und=y by rw[Aq,hy];rfl];have:=hur j hja;rw[show args.getD j .und=args[j] by rw[Aq,A0 hja];rfl]at this;exact .one (Te hI z2 z4 hfy this [])
  rintro _ w1 ⟨u,γ',rfl,hu,hI',hx',hbl,hk⟩;obtain⟨κ2,y1,y2,y3,y4,_⟩:=hI'.freeze (E3 σ0 9 v.refs.eraseDups);have hu2:RepV ⟨κ2,[]⟩ w1 v' u:=Wm hI' y2 y4 hv hu [];obtain⟨γ1,q1,q2,q3,q4,q5⟩:=Afc (args:=args) hI z1 z2 z3 hbl (fun b hlt=>(y3 b hlt).trans (hk b hlt)) y1.dom hu2;obtain⟨p1,p2,p3⟩:=Nr (u:=u) k2 ha (hE.ext q2) q3;show wpOps P ops Q js (a.put o.dst u) w1;rw[<-k1];exact ih n D ops js _ w1 _ N Q hM' p2 (p3.trans hd) p1 q1 (fun a' w' hl=>hQ a' w' (hl.after q2 q5 q4))
 | @opsOwn i f args l e e' σ σ0 σ' F vs v hw hc hF hthr hsp hx _ _ ihf ih=>
  intro n D ops L a w γ N Q hM ha hd hE hI hQ;obtain⟨j,js,o,rfl,ho,hok,hM'⟩:=hM.tail;obtain⟨k1,k2,k3,k4⟩:=Ni hok;refine Pp (n:=n) ho (Nk k3 ha hE hw) ?_;obtain⟨fn,c,hf,hb,_,_,_,hn⟩:=Tw (hT f F hF hsp);obtain⟨us,hrun,hul,hur⟩:=Qs (ops:=ops) (n:=n) k4 hc hE hI hf hb hn;obtain⟨κ1,z1,z2,z3,z4,_⟩:=hI.freeze (L5 σ args);obtain⟨ml,mg⟩:=Mn hx;unfold Oper.wp;rw[hrun];have hI0:=Aba z1;refine(ihf us w ⟨κ1,[]⟩ w.heap.size (by omega) (fun j hj=>?_) hI0).mono ?_
  ·have hja:j<args.length:=by omega
   obtain⟨y,hy,hfy⟩:=mg j _ (A0 hja);rw[show vs.getD j .und=y by rw[Aq,hy];rfl];have:=hur j hja;rw[show args.getD j .und=args[j] by rw[Aq,A0 hja];rfl]at this;exact .one (Te hI z2 z4 hfy this [])
  rintro _ w1 ⟨u,γ',rfl,hu,hI',hx',hbl,hk⟩;obtain⟨i1,i2⟩:=z1.more (w':=w1) (κ':=γ'.κ) (fun b hlt=>hbl.block b hlt) hbl.size hk hI'.dom;have hlen:(σ.freeze (L5 σ args)).length=σ.length:=Mg _ _;have q1:=Apx i1 hI' (fun i p hp=>hI.oblt hp) hI.base;rw[hlen]at q1;have q2:Ext γ w ⟨γ'.κ,γ.O++γ'.O⟩ w1:=Apw (z2.trans i2) _
  have q3:RepV ⟨γ'.κ,γ.O++γ'.O⟩ w1 (v.ren (·+σ.length)) u:=hu.renum (fun i hi p hp=>by
   rw[Cf (by rw[hI.len];omega),hI.len,Nat.add_sub_cancel];exact hp)
  obtain⟨p1,p2,p3⟩:=Nr (u:=u) k2 ha (hE.ext q2) q3;show wpOps P ops Q js (a.put o.dst u) w1;rw[<-k1];exact ih n D ops js _ w1 _ N Q hM' p2 (p3.trans hd) p1 q1 (fun a' w' hl=>hQ a' w' (hl.after q2 (hbl.mono hI.base) (fun b hlt=>(hk b (Qj hlt hI.base)).trans (z3 b hlt))))
 | @opsAny i f args l e e' σ σ1 σ' F v hw hc hF hsp _ _ ihf ih=>
  intro n D ops L a w γ N Q hM ha hd hE hI hQ;obtain⟨j,js,o,rfl,ho,hok,hM'⟩:=hM.tail;obtain⟨k1,k2,k3,k4⟩:=Ni hok;refine Pp (n:=n) ho (Nk k3 ha hE hw) ?_;obtain⟨fn,c,hf,hb,_,_,_,hn⟩:=Tw (hT f F hF hsp);obtain⟨us,hrun,hul,hur⟩:=Qs (ops:=ops) (n:=n) k4 hc hE hI hf hb hn;unfold Oper.wp;rw[hrun];refine(ihf us w γ N hul hur hI).mono ?_;rintro _ w1 ⟨u,γ',rfl,hu,hI',hx',hbl,hk⟩;obtain⟨p1,p2,p3⟩:=Nr (u:=u) k2 ha (hE.ext hx') hu;show wpOps P ops Q js (a.put o.dst u) w1;rw[<-k1];exact ih n D ops js _ w1 _ N Q hM' p2 (p3.trans hd) p1 hI' (fun a' w' hl=>hQ a' w' (hl.after hx' hbl hk))
 | @opsThr i f args l e e' σ σ1 σ' F v hw hc hF hthr hsp _ _ ihf ih=>
  intro n D ops L a w γ N Q hM ha hd hE hI hQ;obtain⟨j,js,o,rfl,ho,hok,hM'⟩:=hM.tail;obtain⟨k1,k2,k3,k4⟩:=Ni hok;refine Pp (n:=n) ho (Nk k3 ha hE hw) ?_;obtain⟨fn,c,hf,hb,_,_,_,hn⟩:=Tw (hT f F hF hsp);obtain⟨us,hrun,hul,hur⟩:=Qs (ops:=ops) (n:=n) k4 hc hE hI hf hb hn;unfold Oper.wp;rw[hrun];refine(ihf us w γ N hul hur hI).mono ?_;rintro _ w1 ⟨u,γ',rfl,hu,hI',hx',hbl,hk⟩;obtain⟨p1,p2,p3⟩:=Nr (u:=u) k2 ha (hE.ext hx') hu;show wpOps P ops Q js (a.put o.dst u) w1;rw[<-k1];exact ih n D ops js _ w1 _ N Q hM' p2 (p3.trans hd) p1 hI' (fun a' w' hl=>hQ a' w' (hl.after hx' hbl hk))
 | @opsSpec i f args l e e' σ σ1 σ' F s v hw hc hF hthr hsp hs _ ih=>
  intro n D ops L a w γ N Q hM ha hd hE hI hQ;obtain⟨j,js,o,rfl,ho,hok,hM'⟩:=hM.tail;obtain⟨k1,k2,k3,k4⟩:=Ni hok;refine Pp (n:=n) ho (Nk k3 ha hE hw) ?_;obtain⟨⟨fn,c,hf,hb,hn⟩,hthrok⟩:=hS f F s hF hsp;obtain⟨us,hrun,hul,hur⟩:=Qs (ops:=ops) (n:=n) k4 hc hE hI hf hb hn;unfold Oper.wp;rw[hrun];refine(hthrok _ σ v σ1 hs us w γ N hul hur hI).mono ?_;rintro _ w1 ⟨u,γ',rfl,hu,hI',hx',hbl,hk⟩;obtain⟨p1,p2,p3⟩:=Nr (u:=u) k2 ha (hE.ext hx') hu;show wpOps P ops Q js (a.put o.dst u) w1;rw[<-k1];exact ih n D ops js _ w1 _ N Q hM' p2 (p3.trans hd) p1 hI' (fun a' w' hl=>hQ a' w' (hl.after hx' hbl hk))
 | fn hF hsp hl _ hres hok1 hok2 hok3 ih=>
  refine Xm hT hF hsp hl hres hok1 (fun γ γ' w w' N u hI h2 hx hv=>?_) ih;obtain⟨γ2,i1,i2,i3,i4⟩:=Af7 hI h2 hx hok2 hok3 hv;exact⟨γ2,i1,i2,i3,fun b _=>i4 b⟩
 | fnL hF hsp hl _ hres hok ih=>
  refine Xm hT hF hsp hl hres (by unfold Gs at hok;simp only[Af]at hok;exact hok.1) (fun γ γ' w w' N u hI h2 hx hv=>?_) ih;obtain⟨γ2,i1,i2,i3,i4⟩:=Af8 hI h2 hx hok hv;exact⟨γ2,i1,i2,i3,fun b _=>i4 b⟩
 | fnS hF hsp hl _ hres hok0 hset hok2 hok3 ih=>
  refine Xm hT hF hsp hl hres hok0 (fun γ γ' w w' N u hI h2 hx hv=>?_) ih;obtain⟨κ2,y1,y2,y3,y4,_⟩:=h2.freeze _;obtain⟨γ2,i1,i2,i3,i4⟩:=Af7 hI y1 (hx.trans y2) hok2 hok3 (Wm h2 y2 y4 hset hv γ'.O);exact⟨γ2,i1,i2,i3,fun b hb=>(i4 b).trans (y3 b hb)⟩
 | fnZ hF hsp hl _ hres hok0 hset hok ih=>
  refine Xm hT hF hsp hl hres hok0 (fun γ γ' w w' N u hI h2 hx hv=>?_) ih;obtain⟨κ2,y1,y2,y3,y4,_⟩:=h2.freeze _;obtain⟨γ2,i1,i2,i3,i4⟩:=Af8 hI y1 (hx.trans y2) hok (Wm h2 y2 y4 hset hv γ'.O);exact⟨γ2,i1,i2,i3,fun b hb=>(i4 b).trans (y3 b hb)⟩
 | cNil=>
  intro n D todo a w γ N hM ha hd hE hI b cs;cases hM;exact⟨a,w,[],.one step_end,γ,hE,hI,Ext.refl _ _,Below.refl _ _,fun _ _=>rfl,ha,hd⟩
 | cSkip _ ih=>
  intro n D todo a w γ N hM ha hd hE hI b cs
  cases hM with
  | c hok hM=>
   have hsk:=Aps hok;obtain⟨a',w',t',hs,hl⟩:=ih n D _ a w γ N hM ha hd hE hI b cs;exact⟨a',w',t',.head (Aoa hsk) hs,hl⟩
 | @cReg kill ais k e e1 e' σ σ1 σ' _ _ ih1 ih2=>
  intro n D todo a w γ N hM ha hd hE hI b cs
  cases hM with
  | @c _ _ _ todo' hok hM=>
   obtain⟨id,ops,rfl,hops⟩:=Ast hok
   have hw:=ih1 n D ops (List.range ops.size) a w γ N (fun ex a' w'=>ex=.normal/\Leaves G N n D γ σ w e1 σ1 a' w') (by
    have:=Ag8 ais ops.toList 0 hops (by simp);rw[List.range_eq_range']
    simpa using this) ha hd hE hI (fun a' w' h=>⟨rfl,h⟩)
   obtain⟨ex,a1,w1,⟨rfl,γ1,q1,q2,q3,q4,q5,q6,q7⟩,harr⟩:=wp_ops _ a w hw b todo' cs;obtain⟨a',w',t',hs,hl⟩:=ih2 n D _ a1 w1 γ1 N hM q6 q7 (q1.del kill) q2 b cs;exact⟨a',w',t',.head step_region (Steps.trans harr hs),hl.after q3 q4 q5⟩
 | @cDrw kill deps ais k e e1 e' σ σ1 σ' E2 _ hE2 _ ih1 ih2=>
  intro n D todo a w γ N hM ha hd hE hI b cs
  cases hM with
  | @c _ _ _ todo' hok hM=>
   obtain⟨id,ops,rfl,hops,hdeps,hmix⟩:=Asu hok;obtain⟨d1,d2⟩:=hI.drew;have hlen:deps.length=ops.size:=by simpa using (W9 hdeps).1
   have hsch:∀ t,Region.schedule (P.follows .mixedOrders) ops t=Mb deps t:=fun t=>by
    unfold Region.schedule;rw[hmix];simpa using Avt hdeps t
   have hw:=ih1 (w.tape w.drawn (.order b.fn id)) n D ops (Mb deps (w.tape w.drawn (.order b.fn id))) a w.drew γ N (fun ex a' w'=>ex=.normal/\Leaves G N n D γ σ w.drew (E2 (w.tape w.drawn (.order b.fn id))) σ1 a' w')
    (Aiq hops _ (fun i hi=>by rw[<-hlen];exact Ajy deps _ _ [] (fun i hi=>by cases hi) i hi)) ha hd (hE.ext d2) d1 (fun a' w' h=>⟨rfl,h⟩)
   obtain⟨ex,a1,w1,⟨rfl,γ1,q1,q2,q3,q4,q5,q6,q7⟩,harr⟩:=wp_ops _ a w.drew hw b todo' cs;have q1':RepE γ1 w1 e1 a1.tmps:=fun m=>by rw[<-hE2 (w.tape w.drawn (.order b.fn id)) m];exact q1 m
   obtain⟨a',w',t',hs,hl⟩:=ih2 n D _ a1 w1 γ1 N hM q6 q7 (q1'.del kill) q2 b cs;have hstep:=step_region_draw (P:=P) (b:=b) (a:=a) (k:=todo') (cs:=cs) (w:=w) (ops:=ops) (id:=id);rw[hsch]at hstep;exact⟨a',w',t',.head hstep (Steps.trans harr hs),(Leaves.after (σ:=σ) (σ1:=σ) d2 (Below.refl _ _).drew (fun _ _=>rfl) (Leaves.after (σ:=σ) q3 q4 q5 hl))⟩
 | cSeq _ ih=>
  intro n D todo a w γ N hM ha hd hE hI b cs
  cases hM with
  | c hok hM=>
   obtain⟨c1,c2,rfl,h1,h2⟩:=Asv hok;obtain⟨a',w',t',hs,hl⟩:=ih n D _ a w γ N (.c h1 (.c h2 hM)) ha hd hE hI b cs;exact⟨a',w',t',.head step_seq hs,hl⟩
 | @cCond s kill x y k e e' σ σ' z hc _ ih=>
  intro n D todo a w γ N hM ha hd hE hI b cs
  cases hM with
  | c hok hM=>
   obtain⟨o,c1,c2,rfl,h1,h2,h3⟩:=Apt hok;have hr:=Ua (a:=a) h1 hE hI;rw[hc]at hr;have hz:=Mj (Aw rfl hr);obtain⟨a',w',t',hs,hl⟩:=ih n D _ a w γ N (.c (c:=if z then c1 else c2) (by cases z<;>assumption) hM) ha hd (hE.del kill) hI b cs;exact⟨a',w',t',.head (step_cond hz) hs,hl⟩
 | cBlk _ ih=>
  intro n D todo a w γ N hM ha hd hE hI b cs
  cases hM with
  | c hok hM=>
   rcases Asw hok with⟨c1,rfl,h1⟩ | ⟨c1,rfl,hi,h1⟩
   ·obtain⟨a',w',t',hs,hl⟩:=ih n D _ a w γ N (.c h1 (.b hM)) ha hd hE hI b cs;exact⟨a',w',t',.head step_block hs,hl⟩
   ·obtain⟨a',w',t',hs,hl⟩:=ih n D _ a w γ N (.c h1 (.s hi hM)) ha hd hE hI b cs;exact⟨a',w',t',.head step_scope hs,hl⟩
 | cEnd _ ih=>
  intro n D todo a w γ N hM ha hd hE hI b cs
  cases hM with
  | b hM=>
   obtain⟨a',w',t',hs,hl⟩:=ih n D _ a w γ N hM ha hd hE hI b cs;exact⟨a',w',t',.head step_inBlock hs,hl⟩
  | s _ hM=>
   obtain⟨a',w',t',hs,hl⟩:=ih n D _ a w γ N hM ha hd hE hI b cs;exact⟨a',w',t',.head step_inScope hs,hl⟩
 | cLoop _ ih=>
  intro n D todo a w γ N hM ha hd hE hI b cs
  cases hM with
  | c hok hM=>
   obtain⟨c1,rfl,h1⟩:=Apu hok;exact ih n D _ a w γ N (.l' h1 hM) ha hd hE hI b cs
 | @cAgain keep c k e e' σ σ' _ ih=>
  intro n D todo a w γ N hM ha hd hE hI b cs
  cases hM with
  | l hok hM=>
   obtain⟨a',w',t',hs,hl⟩:=ih n D _ a w γ N (.c hok (.l hok hM)) ha hd (hE.keep keep) hI b cs;exact⟨a',w',t',.head step_inLoop hs,hl⟩
  | l' hok hM=>
   obtain⟨a',w',t',hs,hl⟩:=ih n D _ a w γ N (.c hok (.l hok hM)) ha hd (hE.keep keep) hI b cs;exact⟨a',w',t',.head step_loop hs,hl⟩
 | cExit hk _ ih=>
  intro n D todo a w γ N hM ha hd hE hI b cs
  cases hM with
  | c hok hM=>
   obtain⟨rfl,hlt⟩:=Apv hok;obtain⟨todo',h1,h2⟩:=hM.exit hlt hk;obtain⟨a',w',t',hs,hl⟩:=ih n D _ a w γ N h2 ha hd hE hI b cs;exact⟨a',w',t',.head (step_exit h1) hs,hl⟩
 | cRet=>
  intro n D todo a w γ N hM ha hd hE hI b cs
  cases hM with
  | c hok hM=>
   obtain rfl:=Asx hok;exact⟨a,w,_,.one step_ret,γ,hE,hI,Ext.refl _ _,Below.refl _ _,fun _ _=>rfl,ha,hd⟩
variable {T:Nat->Option AF} {pr:Nat->Option (List V->Option V)}
def W(T:Nat->Option AF)(pr:Nat->Option (List V->Option V))(k:List It)(e:Env)(σ:St)(Q:Env->St->Prop):Prop:=∃ e' σ',Ev T pr (.code k e σ e' σ')/\Q e' σ'
def WO(T:Nat->Option AF)(pr:Nat->Option (List V->Option V))(l:List AI)(e:Env)(σ:St)(Q:Env->St->Prop):Prop:=∃ e' σ',Ev T pr (.ops l e σ e' σ')/\Q e' σ'
section
variable {Q:Env->St->Prop} {e:Env} {σ:St} {k:List It}
theorem Ay5{a b:AC}(h:W T pr (.c a::.c b::k) e σ Q):W T pr (.c (.seq a b)::k) e σ Q:=let ⟨e',σ',h,q⟩:=h;⟨e',σ',.cSeq h,q⟩
theorem Avv(h:W T pr k e σ Q):W T pr (.c .skip::k) e σ Q:=let ⟨e',σ',h,q⟩:=h;⟨e',σ',.cSkip h,q⟩
theorem Ay6{id:Nat}{c:AC}(h:W T pr (.c c::.b id::k) e σ Q):W T pr (.c (.blk id c)::k) e σ Q:=let ⟨e',σ',h,q⟩:=h;⟨e',σ',.cBlk h,q⟩
theorem Ay7{id:Nat}(h:W T pr k e σ Q):W T pr (.b id::k) e σ Q:=let ⟨e',σ',h,q⟩:=h;⟨e',σ',.cEnd h,q⟩
theorem Avw{keep:List Nat}{c:AC}(h:W T pr (.l keep c::k) e σ Q):W T pr (.c (.loop keep c)::k) e σ Q:=let ⟨e',σ',h,q⟩:=h;⟨e',σ',.cLoop h,q⟩
theorem Asy{keep:List Nat}{c:AC}(h:W T pr (.c c::.l keep c::k) (e.keep keep) σ Q):W T pr (.l keep c::k) e σ Q:=let ⟨e',σ',h,q⟩:=h;⟨e',σ',.cAgain h,q⟩
theorem Avx{id:Nat}{k':List It}(hk:exitTo id k=some k')(h:W T pr k' e σ Q):W T pr (.c (.exit id)::k) e σ Q:=let ⟨e',σ',h,q⟩:=h;⟨e',σ',.cExit hk h,q⟩
theorem Ay8(q:Q e σ):W T pr (.c .ret::k) e σ Q:=⟨e,σ,.cRet,q⟩
theorem Ay9(q:Q e σ):W T pr [] e σ Q:=⟨e,σ,.cNil,q⟩
theorem Ajz{c:S}{kill:List Nat}{x y:AC}{z:Bool}(hc:Ab e c=.bool z)(h1:z=true->W T pr (.c x::k) (e.del kill) σ Q)(h2:z=false->W T pr (.c y::k) (e.del kill) σ Q):W T pr (.c (.cond c kill x y)::k) e σ Q:=by
 cases z with
 | true=>
  obtain⟨e',σ',h,q⟩:=h1 rfl;exact⟨e',σ',.cCond hc h,q⟩
 | false=>
  obtain⟨e',σ',h,q⟩:=h2 rfl;exact⟨e',σ',.cCond hc h,q⟩
theorem Apy{c:S}{kill:List Nat}{x y:AC}(hc:Ab e c=.bool true)(h:W T pr (.c x::k) (e.del kill) σ Q):W T pr (.c (.cond c kill x y)::k) e σ Q:=Ajz hc (fun _=>h) (fun h=>by cases h)
theorem Apz{c:S}{kill:List Nat}{x y:AC}(hc:Ab e c=.bool false)(h:W T pr (.c y::k) (e.del kill) σ Q):W T pr (.c (.cond c kill x y)::k) e σ Q:=Ajz hc (fun h=>by cases h) (fun _=>h)
def Fn(T:Nat->Option AF)(pr:Nat->Option (List V->Option V))(f:Nat)(vs:List V)(v:V):Prop:=∃ F,T f=some F/\F.thr=false/\F.spec=none/\∃ v0 σ0,Ev T pr (.fn f vs [] v0 σ0)/\Dw σ0 v0=some v
def FnO(T:Nat->Option AF)(pr:Nat->Option (List V->Option V))(f:Nat)(vs:List V)(v:V)(σ0:St):Prop:=∃ F,T f=some F/\F.thr=false/\F.spec=none/\Ev T pr (.fn f vs [] v σ0)
def Th(T:Nat->Option AF)(pr:Nat->Option (List V->Option V))(f:Nat)(vs:List V)(σ:St)(v:V)(σ':St):Prop:=∃ F,T f=some F/\F.thr=true/\F.spec=none/\Ev T pr (.fn f vs σ v σ')
def Bp(T:Nat->Option AF)(pr:Nat->Option (List V->Option V))(f:Nat)(vs:List V)(σ:St)(v:V)(σ':St):Prop:=∃ F,T f=some F/\F.spec=none/\Ev T pr (.fn f vs σ v σ')
def Ads(n:Nat)(σ:St)(v:V)(σ1:St):Prop:=Cc v=true/\D7 n [] v.refs=true/\∀ i ob,i<n->σ1[i]?=some ob->σ[i]?=some ob\/D7 n [] ob.refs=true
theorem Ap0{f:Nat}{vs:List V}{v:V}{F:AF}{σ':St}(hT:T f=some F)(ht:F.thr=true)(hsp:F.spec=none)(hl:vs.length=F.pars)(h:W T pr [.c F.body] (C2 0 vs) σ fun e' σ1=>B6 e' σ1 F.res=some v/\Ads σ.length σ v σ1/\σ'=σ1.take σ.length):Th T pr f vs σ v σ':=by
 obtain⟨e',σ1,hE,hr,⟨h1,h2,h3⟩,rfl⟩:=h;exact⟨F,hT,ht,hsp,.fn hT hsp hl hE hr h1 h2 h3⟩
theorem Aob{f:Nat}{vs:List V}{v:V}{F:AF}{σ':St}(hT:T f=some F)(ht:F.thr=true)(hsp:F.spec=none)(hl:vs.length=F.pars)(h:W T pr [.c F.body] (C2 0 vs) σ fun e' σ1=>∃ v0 js,B6 e' σ1 F.res=some v0/\Gs σ.length js v0 σ1=true/\v=v0.ren (ren σ.length js)/\σ'=(σ1.take σ.length++js.filterMap (σ1[·]?)).map (Ob.ren (ren σ.length js))):Th T pr f vs σ v σ':=by
 obtain⟨e',σ1,hE,v0,js,hr,hl2,rfl,rfl⟩:=h;exact⟨F,hT,ht,hsp,.fnL hT hsp hl hE hr hl2⟩
theorem Ag9{f:Nat}{vs:List V}{v:V}{F:AF}(hT:T f=some F)(ht:F.thr=false)(hsp:F.spec=none)(hl:vs.length=F.pars)(h:W T pr [.c F.body] (C2 0 vs) [] fun e' σ'=>∃ v0,B6 e' σ' F.res=some v0/\Cc v0=true/\v0.refs=[]/\Dw [] v0=some v):Fn T pr f vs v:=by
 obtain⟨e',σ',hE,v0,hr,ho,hn,hb⟩:=h;have:=Ev.fn (T:=T) (pr:=pr) hT hsp hl hE hr ho (by rw[hn];rfl) (fun i ob hi=>by simp at hi);exact⟨F,hT,ht,hsp,v0,_,this,hb⟩
theorem Aoc{f:Nat}{vs:List V}{v:V}{F:AF}(hT:T f=some F)(ht:F.thr=false)(hsp:F.spec=none)(hl:vs.length=F.pars)(h:W T pr [.c F.body] (C2 0 vs) [] fun e' σ1=>∃ v0 js,B6 e' σ1 F.res=some v0/\Gs 0 js v0 σ1=true/\Dw ((js.filterMap (σ1[·]?)).map (Ob.ren (ren 0 js))) (v0.ren (ren 0 js))=some v):Fn T pr f vs v:=by
 obtain⟨e',σ',hE,v0,js,hr,hl2,hb⟩:=h;have:=Ev.fnL (T:=T) (pr:=pr) hT hsp hl hE hr hl2;exact⟨F,hT,ht,hsp,_,_,this,by simpa using hb⟩
theorem Af9{f:Nat}{vs:List V}{v:V}{F:AF}{σ':St}(hT:T f=some F)(hsp:F.spec=none)(hl:vs.length=F.pars)(h:W T pr [.c F.body] (C2 0 vs) σ fun e' σ1=>∃ v0 js,B6 e' σ1 F.res=some v0/\Cc v0=true/\Ic σ1 js v0=some v/\D7 σ.length [] v.refs=true/\(∀ i ob,i<σ.length->(σ1.freeze js)[i]?=some ob->σ[i]?=some ob\/D7 σ.length [] ob.refs=true)/\σ'=(σ1.freeze js).take σ.length):Bp T pr f vs σ v σ':=by
 obtain⟨e',σ1,hE,v0,js,hr,h0,h1,h2,h3,rfl⟩:=h;exact⟨F,hT,hsp,.fnS hT hsp hl hE hr h0 h1 h2 h3⟩
theorem Aod{f:Nat}{vs:List V}{v:V}{F:AF}{σ':St}(hT:T f=some F)(ht:F.thr=true)(hsp:F.spec=none)(hl:vs.length=F.pars)(h:W T pr [.c F.body] (C2 0 vs) σ fun e' σ1=>∃ v0 v1 js ks,B6 e' σ1 F.res=some v0/\Cc v0=true/\Ic σ1 js v0=some v1/\Gs σ.length ks v1 (σ1.freeze js)=true/\v=v1.ren (ren σ.length ks)/\σ'=((σ1.freeze js).take σ.length++ks.filterMap ((σ1.freeze js)[·]?)).map (Ob.ren (ren σ.length ks))):Th T pr f vs σ v σ':=by
 obtain⟨e',σ1,hE,v0,v1,js,ks,hr,h0,h1,h2,rfl,rfl⟩:=h;exact⟨F,hT,ht,hsp,.fnZ hT hsp hl hE hr h0 h1 h2⟩
theorem Aoe{f:Nat}{vs:List V}{v:V}{F:AF}(hT:T f=some F)(ht:F.thr=false)(hsp:F.spec=none)(hl:vs.length=F.pars)(h:W T pr [.c F.body] (C2 0 vs) [] fun e' σ1=>∃ v0 js,B6 e' σ1 F.res=some v0/\Cc v0=true/\Ic σ1 js v0=some v/\v.refs=[]/\Dw [] v=some v):Fn T pr f vs v:=by
 obtain⟨e',σ1,hE,v0,js,hr,h0,h1,h2,h3⟩:=h;have:=Ev.fnS (T:=T) (pr:=pr) hT hsp hl hE hr h0 h1 (by rw[h2];rfl) (fun i ob hi=>by simp at hi);exact⟨F,hT,ht,hsp,v,_,this,by simpa using h3⟩
end
variable {T:Nat->Option AF} {pr:Nat->Option (List V->Option V)}
def S.rd:S->List Nat
 | .t n=>[n]
 | .k _=>[]
def S.rdO:Option S->List Nat
 | some s=>s.rd
 | none=>[]
def AO.rd:AO->List Nat
 | .mov x | .box _ x | .load _ _ x | .chk x | .un _ x | .cvi _ x | .cvs x | .cvl x | .stb _ x | .bts x | .sap _ x | .fad _ x | .fld _ _ _ x | .ext _ x | .len x | .lens x=>x.rd
 | .pick c a b=>c.rd++(a.rd++b.rd)
 | .new _ _ | .mmk=>[]
 | .build _ ps=>ps.flatMap fun p=>p.2.2.rd
 | .rows _ _ ps | .rowf _ _ ps | .rowo _ _ _ ps=>ps.flatMap fun p=>p.2.rd
 | .mk _ _ _ x y | .mlk _ x y=>x.rd++y.rd
 | .mup x k v=>x.rd++(k.rd++v.rd)
 | .mkf _ a c=>a.flatMap S.rd++c.flatMap S.rd
 | .store _ x v=>x.rd++v.rd
 | .bin _ x y | .eq _ _ x y | .iad _ x y | .iar _ _ x y | .idx x y | .ida _ _ _ x y | .app _ _ x y | .apps _ x y | .mx x y | .mn x y=>x.rd++y.rd
 | .slc _ x lo hi m3=>x.rd++(S.rdO lo++(S.rdO hi++S.rdO m3))
 | .slcs x lo hi | .slca _ _ x lo hi=>x.rd++(S.rdO lo++S.rdO hi)
 | .call _ xs=>xs.flatMap S.rd
 | .callv x xs=>x.rd++xs.flatMap S.rd
def AI.rd(i:AI):List Nat:=i.op.rd++(match i.g with
 | some (t,_)=>[t]
 | none=>[])
def Agree(e e':Env)(l:List Nat):Prop:=∀ t∈l,e.get t=e'.get t
theorem Agree.l{e e':Env}{a b:List Nat}(h:Agree e e' (a++b)):Agree e e' a:=fun t ht=>h t (by simp[ht])
theorem Agree.r{e e':Env}{a b:List Nat}(h:Agree e e' (a++b)):Agree e e' b:=fun t ht=>h t (by simp[ht])
theorem Bw{e e':Env}{s:S}(h:Agree e e' s.rd):Ab e s=Ab e' s:=by
 cases s with
 | t n=>exact h n (by simp[S.rd])
 | k v=>rfl
theorem Pb{e e':Env}{s:Option S}(h:Agree e e' (S.rdO s)):s.map (Ab e)=s.map (Ab e'):=by
 cases s with
 | none=>rfl
 | some s=>simp only[Ha];rw[Bw h]
theorem Mh{e e':Env}:∀ {xs:List S},Agree e e' (xs.flatMap S.rd)->xs.map (Ab e)=xs.map (Ab e')
 | [],_=>rfl
 | x::xs,h=>by
  rw[V8]at h;rw[Ba,Ba,Bw h.l,Mh h.r]
theorem Aga{e e':Env}{op:AO}(h:Agree e e' op.rd)(σ:St):Ae op e σ=Ae op e' σ:=by
 cases op with
 | build z ps=>
  have:(ps.map fun p=>(p.1,p.2.1,Ab e p.2.2))=ps.map fun p=>(p.1,p.2.1,Ab e' p.2.2):=by
   simp only[AO.rd]at h
   induction ps with
   | nil=>rfl
   | cons p ps ih=>
    rw[V8]at h;rw[Ba,Ba,Bw h.l,ih h.r]
  simp only[Ae,this]
 | rows n z ps=>
  have:(ps.map fun p=>(p.1*z.length,z.length,Ab e p.2))=ps.map fun p=>(p.1*z.length,z.length,Ab e' p.2):=by
   simp only[AO.rd]at h
   induction ps with
   | nil=>rfl
   | cons p ps ih=>
    rw[V8]at h;rw[Ba,Ba,Bw h.l,ih h.r]
  simp only[Ae,this]
 | rowf n z ps=>
  have:(ps.map fun p=>(p.1*z.length,z.length,Ab e p.2))=ps.map fun p=>(p.1*z.length,z.length,Ab e' p.2):=by
   simp only[AO.rd]at h
   induction ps with
   | nil=>rfl
   | cons p ps ih=>
    rw[V8]at h;rw[Ba,Ba,Bw h.l,ih h.r]
  simp only[Ae,this]
 | rowo t n z ps=>
  have:(ps.map fun p=>(p.1*z.length,z.length,Ab e p.2))=ps.map fun p=>(p.1*z.length,z.length,Ab e' p.2):=by
   simp only[AO.rd]at h
   induction ps with
   | nil=>rfl
   | cons p ps ih=>
    rw[V8]at h;rw[Ba,Ba,Bw h.l,ih h.r]
  simp only[Ae,this]
 | call f xs=>rfl
 | callv x xs=>rfl
 | new t z=>rfl
 | mmk=>rfl
 | mkf f a c=>simp only[Ae,AO.rd]at h ⊢;rw[Mh h.l,Mh h.r]
 | mup x k v=>simp only[Ae,AO.rd]at h ⊢;rw[Bw h.l,Bw h.r.l,Bw h.r.r]
 | pick c a b=>simp only[Ae,AO.rd]at h ⊢;rw[Bw h.l,Bw h.r.l,Bw h.r.r]
 | slc m x lo hi mx=>simp only[Ae,AO.rd]at h ⊢;rw[Bw h.l,Pb h.r.l,Pb h.r.r.l,Pb h.r.r.r]
 | slcs x lo hi=>simp only[Ae,AO.rd]at h ⊢;rw[Bw h.l,Pb h.r.l,Pb h.r.r]
 | slca l m x lo hi=>simp only[Ae,AO.rd]at h ⊢;rw[Bw h.l,Pb h.r.l,Pb h.r.r]
 | mov x=>simp only[Ae,AO.rd]at h ⊢;rw[Bw h]
 | box t x=>simp only[Ae,AO.rd]at h ⊢;rw[Bw h]
 | load n one x=>simp only[Ae,AO.rd]at h ⊢;rw[Bw h]
 | chk x=>simp only[Ae,AO.rd]at h ⊢;rw[Bw h]
 | un o x=>simp only[Ae,AO.rd]at h ⊢;rw[Bw h]
 | cvi k x=>simp only[Ae,AO.rd]at h ⊢;rw[Bw h]
 | sap k x=>simp only[Ae,AO.rd]at h ⊢;rw[Bw h]
 | cvs x=>simp only[Ae,AO.rd]at h ⊢;rw[Bw h]
 | cvl x=>simp only[Ae,AO.rd]at h ⊢;rw[Bw h]
 | stb t x=>simp only[Ae,AO.rd]at h ⊢;rw[Bw h]
 | bts x=>simp only[Ae,AO.rd]at h ⊢;rw[Bw h]
 | fad o x=>simp only[Ae,AO.rd]at h ⊢;rw[Bw h]
 | fld o n b x=>simp only[Ae,AO.rd]at h ⊢;rw[Bw h]
 | ext i x=>simp only[Ae,AO.rd]at h ⊢;rw[Bw h]
 | len x=>simp only[Ae,AO.rd]at h ⊢;rw[Bw h]
 | lens x=>simp only[Ae,AO.rd]at h ⊢;rw[Bw h]
 | store n x v=>simp only[Ae,AO.rd]at h ⊢;rw[Bw h.l,Bw h.r]
 | bin o x y=>simp only[Ae,AO.rd]at h ⊢;rw[Bw h.l,Bw h.r]
 | eq k b x y=>simp only[Ae,AO.rd]at h ⊢;rw[Bw h.l,Bw h.r]
 | iad m x y=>simp only[Ae,AO.rd]at h ⊢;rw[Bw h.l,Bw h.r]
 | iar l m x y=>simp only[Ae,AO.rd]at h ⊢;rw[Bw h.l,Bw h.r]
 | ida l m one x y=>simp only[Ae,AO.rd]at h ⊢;rw[Bw h.l,Bw h.r]
 | idx x y=>simp only[Ae,AO.rd]at h ⊢;rw[Bw h.l,Bw h.r]
 | app b m x y=>simp only[Ae,AO.rd]at h ⊢;rw[Bw h.l,Bw h.r]
 | apps t x y=>simp only[Ae,AO.rd]at h ⊢;rw[Bw h.l,Bw h.r]
 | mx x y=>simp only[Ae,AO.rd]at h ⊢;rw[Bw h.l,Bw h.r]
 | mn x y=>simp only[Ae,AO.rd]at h ⊢;rw[Bw h.l,Bw h.r]
 | mk t b z x y=>simp only[Ae,AO.rd]at h ⊢;rw[Bw h.l,Bw h.r]
 | mlk z x y=>simp only[Ae,AO.rd]at h ⊢;rw[Bw h.l,Bw h.r]
def Ew(T:Nat->Option AF)(pr:Nat->Option (List V->Option V)):AO->Nat
 | .load _ _ _=>1
 | .new _ _ | .box _ _ | .store _ _ _ | .app _ _ _ _ | .apps _ _ _ | .rowf _ _ _ | .rowo _ _ _ _ | .mk _ _ _ _ _ | .stb _ _ | .bts _ | .cvl _ | .mmk | .mlk _ _ _ | .mup _ _ _ | .callv _ _=>2
 | .call f _=>match pr f with
  | some _=>0
  | none=>match T f with
   | some F=>if F.thr then 2 else 0
   | none=>2
 | _=>0
theorem Q3{σ σ1:St}{v:V}{x:Option V}(h:x.map (fun v=>(v,σ))=some (v,σ1)):σ1=σ/\x=some v:=by
 cases x with
 | none=>simp at h
 | some y=>simp at h;exact⟨h.2.symm,by rw[h.1]⟩
theorem Wn{op:AO}(h0:Ew T pr op=0){e:Env}{σ σ1:St}{v:V}(h:Ae op e σ=some (v,σ1)):σ1=σ/\∀ σ',Ae op e σ'=some (v,σ'):=by
 cases op with
 | new | box | store | app | apps | load | rowf | rowo | mk | stb | bts | cvl | mmk | mlk | mup | callv=>simp[Ew]at h0
 | call=>simp[Ae]at h
 | mov x=>simp only[Ae]at h ⊢;cases h;exact⟨rfl,fun _=>rfl⟩
 | pick c a b=>
  simp only[Ae]at h ⊢
  split at h
  ·cases h;exact⟨rfl,fun _=>rfl⟩
  ·cases h
 | build z ps=>
  simp only[Ae]at h ⊢
  cases hf:Gf z (ps.map fun p=>(p.1,p.2.1,Ab e p.2.2)) with
  | none=>rw[hf]at h;simp at h
  | some cs=>rw[hf]at h;simp at h;exact⟨h.2.symm,fun σ'=>by simp[h.1]⟩
 | rows n z ps=>
  simp only[Ae]at h ⊢
  cases hf:Gf (List.replicate n z).flatten (ps.map fun p=>(p.1*z.length,z.length,Ab e p.2)) with
  | none=>rw[hf]at h;simp at h
  | some cs=>
   rw[hf]at h;simp only[Cz]at h ⊢
   split at h
   ·rename_i hs;cases h;exact⟨rfl,fun σ'=>by rw[if_pos hs]⟩
   ·cases h
 | mkf f a c=>
  simp only[Ae]at h ⊢
  split at h
  ·rename_i hs;cases h;exact⟨rfl,fun σ'=>by rw[if_pos hs]⟩
  ·cases h
 | slca l m x lo hi=>
  simp only[Ae]at h ⊢
  split at h
  ·simp only[C9]at h;obtain⟨p,hp,q,hq,h⟩:=h
   split at h
   ·rename_i hle;cases h;exact⟨rfl,fun σ'=>by simp[hp,hq,hle]⟩
   ·cases h
  ·cases h
 | chk x=>
  simp only[Ae]at h ⊢
  split at h
  ·cases h;exact⟨rfl,fun _=>rfl⟩
  ·cases h;exact⟨rfl,fun _=>rfl⟩
  ·cases h
 | bin o x y=>simp only[Ae]at h ⊢;obtain⟨h1,h2⟩:=Q3 h;exact⟨h1,fun σ'=>by rw[h2];rfl⟩
 | eq k b x y=>
  simp only[Ae]at h ⊢
  cases hf:J1 k (Ab e x) (Ab e y) with
  | none=>rw[hf]at h;simp at h
  | some z=>rw[hf]at h;simp at h;exact⟨h.2.symm,fun σ'=>by simp[h.1]⟩
 | un o x=>simp only[Ae]at h ⊢;obtain⟨h1,h2⟩:=Q3 h;exact⟨h1,fun σ'=>by rw[h2];rfl⟩
 | sap o x=>simp only[Ae]at h ⊢;obtain⟨h1,h2⟩:=Q3 h;exact⟨h1,fun σ'=>by rw[h2];rfl⟩
 | cvi k x=>
  simp only[Ae]at h ⊢
  split at h
  ·cases h;exact⟨rfl,fun _=>rfl⟩
  ·cases h
 | cvs x=>
  simp only[Ae]at h ⊢
  split at h
  ·cases h;exact⟨rfl,fun _=>rfl⟩
  ·cases h
 | slc m x lo hi m3=>simp only[Ae]at h ⊢;obtain⟨h1,h2⟩:=Q3 h;exact⟨h1,fun σ'=>by rw[h2];rfl⟩
 | slcs x lo hi=>simp only[Ae]at h ⊢;obtain⟨h1,h2⟩:=Q3 h;exact⟨h1,fun σ'=>by rw[h2];rfl⟩
 | fad o x=>
  simp only[Ae]at h ⊢
  split at h
  ·cases h;exact⟨rfl,fun _=>rfl⟩
  ·cases h;exact⟨rfl,fun _=>rfl⟩
  ·cases h
 | fld o n b x=>
  simp only[Ae]at h ⊢
  split at h
  ·split at h
   ·rename_i hle;obtain⟨h1,h2⟩:=Q3 h;exact⟨h1,fun σ'=>by simp only[if_pos hle,h2];rfl⟩
   ·cases h
  ·cases h
 | iad m x i=>
  simp only[Ae]at h ⊢
  split at h
  ·rename_i t xs e1
   cases hf:Hn xs (Ab e i) with
   | none=>rw[hf]at h;simp at h
   | some r=>
    rw[hf]at h;simp only[Cz]at h
    split at h
    ·rename_i hr;cases h;exact⟨rfl,fun σ'=>by simp[hf,hr]⟩
    ·cases h
  ·split at h
   ·split at h
    ·rename_i hc;cases h;exact⟨rfl,fun σ'=>by simp only[if_pos hc]⟩
    ·cases h
   ·cases h
  ·cases h
 | ida l m one x i=>
  simp only[Ae]at h ⊢
  split at h
  ·split at h
   ·rename_i hn
    split at h
    ·split at h
     ·rename_i hle;simp only[Bm]at h;obtain⟨v',h,h2⟩:=h;cases h2;exact⟨rfl,fun τ=>by simp only[if_pos hn,if_pos hle,h,Ha]⟩
     ·cases h
    ·cases h
   ·cases h
  ·cases h
 | iar l m x i=>
  simp only[Ae]at h ⊢
  split at h
  ·split at h
   ·rename_i hn
    split at h
    ·cases h;exact⟨rfl,fun _=>by simp only[if_pos hn]⟩
    ·cases h;exact⟨rfl,fun _=>by simp only[if_pos hn]⟩
    ·cases h
   ·cases h
  ·cases h
 | idx x i=>
  simp only[Ae]at h ⊢
  split at h
  ·rename_i l e1
   cases hf:Hn l (Ab e i) with
   | none=>rw[hf]at h;simp at h
   | some r=>rw[hf]at h;simp at h;exact⟨h.2.symm,fun σ'=>by simp[hf,h.1]⟩
  ·cases h
 | ext i x=>
  simp only[Ae]at h ⊢
  split at h
  ·rename_i vs e1
   cases hf:vs[i]? with
   | none=>rw[hf]at h;simp at h
   | some r=>rw[hf]at h;simp at h;exact⟨h.2.symm,fun σ'=>by simp[hf,h.1]⟩
  ·cases h
 | len x=>
  simp only[Ae]at h ⊢
  split at h
  ·cases h;exact⟨rfl,fun _=>rfl⟩
  ·cases h;exact⟨rfl,fun _=>rfl⟩
  ·cases h;exact⟨rfl,fun _=>rfl⟩
  ·cases h
 | lens x=>
  simp only[Ae]at h ⊢
  split at h
  ·cases h;exact⟨rfl,fun _=>rfl⟩
  ·cases h
 | mx x y=>
  simp only[Ae]at h ⊢
  split at h
  ·split at h
   ·rename_i hk;cases h;exact⟨rfl,fun _=>by simp only[if_pos hk]⟩
   ·cases h
  ·cases h
 | mn x y=>
  simp only[Ae]at h ⊢
  split at h
  ·split at h
   ·rename_i hk;cases h;exact⟨rfl,fun _=>by simp only[if_pos hk]⟩
   ·cases h
  ·cases h
theorem Aff(σ σ':St):∀ (d:Nat) (v:V),Fd σ [] d v=Fd σ' [] d v
 | 0,_=>rfl
 | d+1,v=>by
  unfold Fd
  split
  ·rfl
  ·cases v<;>simp
theorem Am3(σ σ':St)(v:V):F3 σ [] v=F3 σ' [] v:=by
 unfold F3
 split
 ·rfl
 ·rw[show Fd σ [] 9=Fd σ' [] 9 from funext (Aff σ σ' 9)]
 ·exact Aff σ σ' 9 v
theorem Xa{σ:St}{args:List V}(h:Aj args=[]):L5 σ args=[]:=by
 unfold L5;rw[h];simp[E3]
theorem Xb{σ:St}{args:List V}(h:Aj args=[])(σ':St):C6 σ' args=C6 σ args:=by
 unfold C6;rw[Xa h,Xa h,show F3 σ' []=F3 σ [] from funext (Am3 σ' σ)]
theorem Qv{σ:St}{args:List V}(h:Aj args=[])(v:V):after σ args v=σ:=by
 unfold after;rw[Xa h]
 split<;>rfl
inductive Stp (T:Nat->Option AF) (pr:Nat->Option (List V->Option V)):AI->Env->St->V->St->Prop
 | off {i:AI} {e:Env} {σ:St}:Cg e i=some false->Stp T pr i e σ .skp σ
 | val {i:AI} {e:Env} {σ σ1:St} {v:V}:Cg e i=some true->Ae i.op e σ=some (v,σ1)->Stp T pr i e σ v σ1
 | prim {d:Option Nat} {g:Option (Nat × Bool)} {f:Nat} {xs:List S} {e:Env} {σ:St} {s:List V->Option V} {vs:List V} {v:V}:Cg e ⟨d,.call f xs,g⟩=some true->pr f=some s->Aj (xs.map (Ab e))=[] ->
   C6 [] (xs.map (Ab e))=some vs->s vs=some v->Stp T pr ⟨d,.call f xs,g⟩ e σ v σ
 | pure {d:Option Nat} {g:Option (Nat × Bool)} {f:Nat} {xs:List S} {e:Env} {σ:St} {vs:List V} {v:V}:Cg e ⟨d,.call f xs,g⟩=some true->Aj (xs.map (Ab e))=[] ->
   C6 [] (xs.map (Ab e))=some vs->Fn T pr f vs v->Stp T pr ⟨d,.call f xs,g⟩ e σ v σ
 | thr {d:Option Nat} {g:Option (Nat × Bool)} {f:Nat} {xs:List S} {e:Env} {σ σ1:St} {F:AF} {v:V}:Cg e ⟨d,.call f xs,g⟩=some true->T f=some F->F.thr=true->F.spec=none->pr f=none ->
   Ev T pr (.fn f (xs.map (Ab e)) σ v σ1)->Stp T pr ⟨d,.call f xs,g⟩ e σ v σ1
 | spec {d:Option Nat} {g:Option (Nat × Bool)} {f:Nat} {xs:List S} {e:Env} {σ σ1:St} {F:AF} {s:List V->St->Option (V × St)} {v:V}:Cg e ⟨d,.call f xs,g⟩=some true->T f=some F->F.thr=true->F.spec=some s->pr f=none ->
   s (xs.map (Ab e)) σ=some (v,σ1)->Stp T pr ⟨d,.call f xs,g⟩ e σ v σ1
 | vprim {d:Option Nat} {g:Option (Nat × Bool)} {f:Nat} {x:S} {xs:List S} {args:List V} {e:Env} {σ:St} {s:List V->Option V} {vs:List V} {v:V}:Cg e ⟨d,.callv x xs,g⟩=some true->Bt e (.callv x xs)=some (f,args)->pr f=some s ->
   C6 σ args=some vs->s vs=some v->Stp T pr ⟨d,.callv x xs,g⟩ e σ v (after σ args v)
 | vpure {d:Option Nat} {g:Option (Nat × Bool)} {f:Nat} {x:S} {xs:List S} {args:List V} {e:Env} {σ:St} {vs:List V} {v:V}:Cg e ⟨d,.callv x xs,g⟩=some true->Bt e (.callv x xs)=some (f,args) ->
   C6 σ args=some vs->Fn T pr f vs v->Stp T pr ⟨d,.callv x xs,g⟩ e σ v (after σ args v)
 | vthr {d:Option Nat} {g:Option (Nat × Bool)} {f:Nat} {x:S} {xs:List S} {args:List V} {e:Env} {σ σ1:St} {F:AF} {v:V}:Cg e ⟨d,.callv x xs,g⟩=some true->Bt e (.callv x xs)=some (f,args)->T f=some F->F.thr=true->F.spec=none ->
   Ev T pr (.fn f args σ v σ1)->Stp T pr ⟨d,.callv x xs,g⟩ e σ v σ1
theorem Stp.ev{i:AI}{l:List AI}{e e':Env}{σ σ1 σ':St}{v:V}(h:Stp T pr i e σ v σ1)(g:Ev T pr (.ops l (e.putO i.dst v) σ1 e' σ')):Ev T pr (.ops (i::l) e σ e' σ'):=by
 cases h with
 | off hw=>exact .opsSkip hw g
 | val hw hv=>exact .opsVal hw hv g
 | prim hw hp hn hx hs=>exact .opsPrim hw rfl hp ((Xb hn _).trans hx) hs (by rw[Qv hn];exact g)
 | pure hw hn hx hf=>
  obtain⟨F,h1,h2,hsp,v0,σ0,h3,h4⟩:=hf;exact .opsPure hw rfl h1 h2 hsp ((Xb hn _).trans hx) h3 h4 (by rw[Qv hn];exact g)
 | thr hw h1 h2 hsp _ h3=>exact .opsThr hw rfl h1 h2 hsp h3 g
 | spec hw h1 h2 hsp _ h3=>exact .opsSpec hw rfl h1 h2 hsp h3 g
 | vprim hw hc hp hx hs=>exact .opsPrim hw hc hp hx hs g
 | vpure hw hc hx hf=>
  obtain⟨F,h1,h2,hsp,v0,σ0,h3,h4⟩:=hf;exact .opsPure hw hc h1 h2 hsp hx h3 h4 g
 | vthr hw hc h1 h2 hsp h3=>exact .opsThr hw hc h1 h2 hsp h3 g
theorem Aex{e e':Env}{i:AI}(h:Agree e e' i.rd):Cg e i=Cg e' i:=by
 unfold Cg
 cases hg:i.g with
 | none=>rfl
 | some p=>
  obtain⟨t,b⟩:=p;have:=h t (by simp[AI.rd,hg]);simp only[this]
theorem Wi{e e':Env}{x:S}{xs:List S}(h:Agree e e' (AO.callv x xs).rd):Bt e (.callv x xs)=Bt e' (.callv x xs):=by
 have h':Agree e e' (x.rd++xs.flatMap S.rd):=h;simp only[Bt];rw[Bw h'.l,Mh h'.r]
theorem Stp.move{i:AI}{e e':Env}{σ σ1:St}{v:V}(h:Stp T pr i e σ v σ1)(ha:Agree e e' i.rd):
  Stp T pr i e' σ v σ1/\(Ew T pr i.op≠2->σ1=σ)/\(Ew T pr i.op=0->∀ σ',Stp T pr i e' σ' v σ') /\
  (∀ n one x,i.op=.load n one x->∀ σ',Gy σ' n one (Ab e x)=Gy σ n one (Ab e x)->Stp T pr i e' σ' v σ'):=by
 have hw:=Aex ha
 cases h with
 | off h=>exact⟨.off (hw ▸ h),fun _=>rfl,fun _ σ'=>.off (hw ▸ h),fun _ _ _ _ σ' _=>.off (hw ▸ h)⟩
 | val h hv=>
  have he:=Aga (op:=i.op) ha.l;refine⟨.val (hw ▸ h) (he σ ▸ hv),fun hc=>?_,fun hc σ'=>?_,fun n one x hop σ' hl=>?_⟩
  ·by_cases h0:Ew T pr i.op=0
   ·exact(Wn h0 hv).1
   ·cases hop:i.op with
    | load n one x=>
     rw[hop]at hv;simp only[Ae,Bm]at hv;obtain⟨_,_,h⟩:=hv;cases h;rfl
    | _=>rw[hop]at h0 hc hv;simp[Ew]at h0 hc<;>simp[Ae]at hv
  ·exact .val (hw ▸ h) (he σ' ▸ (Wn hc hv).2 σ')
  ·refine .val (hw ▸ h) (he σ' ▸ ?_);rw[hop]at hv ⊢;simp only[Ae]at hv ⊢;rw[hl]
   cases hl2:Gy σ n one (Ab e x) with
   | none=>rw[hl2]at hv;simp at hv
   | some y=>rw[hl2]at hv;simp at hv;simp[hv.1]
 | prim h hp hn hx hs=>
  have hm:=Mh (xs:=_) (show Agree e e' _ from ha.l);rw[hm]at hx hn;exact⟨.prim (hw ▸ h) hp hn hx hs,fun _=>rfl,fun _ σ'=>.prim (hw ▸ h) hp hn hx hs,fun _ _ _ hop=>by cases hop⟩
 | pure h hn hx hf=>
  have hm:=Mh (xs:=_) (show Agree e e' _ from ha.l);rw[hm]at hx hn;exact⟨.pure (hw ▸ h) hn hx hf,fun _=>rfl,fun _ σ'=>.pure (hw ▸ h) hn hx hf,fun _ _ _ hop=>by cases hop⟩
 | spec h h1 h2 hsp hp h3=>
  have hm:=Mh (xs:=_) (show Agree e e' _ from ha.l);rw[hm]at h3;refine⟨.spec (hw ▸ h) h1 h2 hsp hp h3,fun hc=>?_,fun hc=>?_,fun _ _ _ hop=>by cases hop⟩
  ·simp[Ew,hp,h1,h2]at hc
  ·simp[Ew,hp,h1,h2]at hc
 | thr h h1 h2 hsp hp h3=>
  have hm:=Mh (xs:=_) (show Agree e e' _ from ha.l);rw[hm]at h3;refine⟨.thr (hw ▸ h) h1 h2 hsp hp h3,fun hc=>?_,fun hc=>?_,fun _ _ _ hop=>by cases hop⟩
  ·simp[Ew,hp,h1,h2]at hc
  ·simp[Ew,hp,h1,h2]at hc
 | vprim h hc hp hx hs=>exact⟨.vprim (hw ▸ h) (by rw[<-Wi ha.l];exact hc) hp hx hs,fun hc=>by simp[Ew]at hc,fun hc=>by simp[Ew]at hc,fun _ _ _ hop=>by cases hop⟩
 | vpure h hc hx hf=>exact⟨.vpure (hw ▸ h) (by rw[<-Wi ha.l];exact hc) hx hf,fun hc=>by simp[Ew]at hc,fun hc=>by simp[Ew]at hc,fun _ _ _ hop=>by cases hop⟩
 | vthr h hc h1 h2 hsp h3=>exact⟨.vthr (hw ▸ h) (by rw[<-Wi ha.l];exact hc) h1 h2 hsp h3,fun hc=>by simp[Ew]at hc,fun hc=>by simp[Ew]at hc,fun _ _ _ hop=>by cases hop⟩
variable {T:Nat->Option AF} {pr:Nat->Option (List V->Option V)}
def Dx(deps:List (List Nat)):Nat->Nat->Nat->Bool
 | 0,_,_=>false
 | f+1,j,i=>(deps.getD j []).any fun d=>d==i||Dx deps f d i
def Aza(T:Nat->Option AF)(pr:Nat->Option (List V->Option V))(x y:AI):Bool:=
 (match x.dst with
  | some d=>!y.rd.elem d&&!(y.dst==some d)
  | none=>true)&&((match y.dst with
  | some d=>!x.rd.elem d
  | none=>true)&&!(Ew T pr x.op==2&&Ew T pr y.op==2))
def Asz(T:Nat->Option AF)(pr:Nat->Option (List V->Option V))(deps:List (List Nat))(ops:List AI):Bool:=
 deps.length==ops.length&&(List.range ops.length).all fun j=>((deps.getD j []).all fun d=>decide (d<j))&&(List.range j).all fun i=>Dx deps ops.length j i||(match ops[i]?,ops[j]? with
  | some x,some y=>Aza T pr x y
  | _,_=>false)
variable {T:Nat->Option AF} {pr:Nat->Option (List V->Option V)}
theorem Agb:∀ (n:Nat) (l:List Nat),l.Nodup->(∀ x∈l,x<n)->l.length<=n
 | 0,[],_,_=>Ah _
 | 0,x::_,_,h=>absurd (h x (by simp)) (by omega)
 | n+1,l,hn,h=>by
  have h1:=Agb n (l.erase n) (hn.erase n) (fun x hx=>by
   have:=(List.Nodup.mem_erase_iff hn).1 hx;have:=h x this.2
   omega)
  rw[List.length_erase]at h1
  split at h1<;>omega
theorem Wt:∀ (n:Nat) (l:List Nat),(∀ j,j<n->j∈l)->n<=l.length
 | 0,_,_=>A2 _
 | n+1,l,h=>by
  have h1:=Wt n (l.erase n) (fun j hj=>(List.mem_erase_of_ne (by omega)).2 (h j (by omega)));have hn:=h n (by omega);rw[List.length_erase,if_pos hn]at h1;have:=Zt hn;omega
theorem Aj0{n:Nat}{l:List Nat}(hn:l.Nodup)(h:∀ x∈l,x<n)(hl:l.length=n){j:Nat}(hj:j<n):j∈l:=by
 rcases Classical.em (j∈l) with h' | h'
 ·exact h'
 ·have:=Agb n (j::l) (Z1.2 ⟨h',hn⟩) (fun x hx=>by
   rcases Be.1 hx with rfl | hx
   ·exact hj
   ·exact h x hx)
  simp at this;omega
def K3(deps:List (List Nat)):Nat->Nat->List Nat->List Nat
 | 0,_,_=>[]
 | fuel+1,t,acc=>
  match ((List.range deps.length).filter (I1 deps acc))[t % ((List.range deps.length).filter (I1 deps acc)).length]? with
  | some i=>i::K3 deps fuel (t / ((List.range deps.length).filter (I1 deps acc)).length) (i::acc)
  | none=>[]
theorem Abb(deps:List (List Nat)):∀ (fuel t:Nat) (acc:List Nat),Lz deps fuel t acc=acc.reverse++K3 deps fuel t acc
 | 0,_,acc=>by simp[Lz,K3]
 | fuel+1,t,acc=>by
  unfold Lz K3;simp only
  split
  ·rename_i i hi;rw[Abb deps fuel _ (i::acc),hi];simp
  ·rename_i hi;rw[hi];simp
section
variable {deps:List (List Nat)} {ops:List AI} {e e1:Env} {σ σ1:St} {env:Nat->Env} {st:Nat->St} {val:Nat->V}
def DC(deps:List (List Nat))(acc:List Nat):Prop:=∀ j∈acc,∀ d∈deps.getD j [],d∈acc
theorem Ns{acc:List Nat}(h:DC deps acc):∀ (f j i:Nat),Dx deps f j i=true->j∈acc->i∈acc
 | 0,_,_,hb,_=>by simp[Dx]at hb
 | f+1,j,i,hb,hj=>by
  simp only[Dx,Li,Hb,beq_iff_eq]at hb;obtain⟨d,hd,hb⟩:=hb;have hda:=h j hj d hd;rcases hb with rfl | hb
  ·exact hda
  ·exact Ns h f d i hb hda
theorem Qw{acc:List Nat}(h:DC deps acc){f j i:Nat}(hr:∀ d∈deps.getD j [],d∈acc)(hb:Dx deps f j i=true):i∈acc:=by
 cases f with
 | zero=>simp[Dx]at hb
 | succ f=>
  simp only[Dx,Li,Hb,beq_iff_eq]at hb;obtain⟨d,hd,hb⟩:=hb;rcases hb with rfl | hb
  ·exact hr d hd
  ·exact Ns h f d i hb (hr d hd)
def K6(ops:List AI)(j:Nat):Option Nat:=(ops[j]?).bind (·.dst)
def EnvOK(ops:List AI)(val:Nat->V)(e:Env)(M:Nat->Prop)(E:Env):Prop:=
 ∀ t,(∃ j,M j/\K6 ops j=some t/\(∀ j',M j'->K6 ops j'=some t->j'<=j)/\E.get t=val j)\/((∀ j,M j->K6 ops j≠some t)/\E.get t=e.get t)
theorem EnvOK.put{M:Nat->Prop}{E:Env}{i:Nat}{x:AI}(h:EnvOK ops val e M E)(hx:ops[i]?=some x)(hlt:∀ j t,M j->x.dst=some t->K6 ops j=some t->j<i):EnvOK ops val e (fun j=>j=i\/M j) (E.putO x.dst (val i)):=by
 intro t;have hdi:K6 ops i=x.dst:=by simp[K6,hx]
 cases hd:x.dst with
 | none=>
  simp only[Env.putO];rcases h t with⟨j,h1,h2,h3,h4⟩ | ⟨h1,h2⟩
  ·exact .inl ⟨j,.inr h1,h2,fun j' hj' ht=>by
    rcases hj' with rfl | hj'
    ·rw[hdi,hd]at ht;cases ht
    ·exact h3 j' hj' ht,h4⟩
  ·exact .inr ⟨fun j hj=>by
    rcases hj with rfl | hj
    ·rw[hdi,hd];simp
    ·exact h1 j hj,h2⟩
 | some d=>
  simp only[Env.putO];rw[Env.get_put];by_cases hdt:d=t
  ·subst hdt;rw[if_pos rfl]
   exact .inl ⟨i,.inl rfl,by rw[hdi,hd],fun j' hj' ht=>by
    rcases hj' with rfl | hj'
    ·exact Ah _
    ·exact Nat.le_of_lt (hlt j' d hj' hd ht),rfl⟩
  ·rw[if_neg hdt];rcases h t with⟨j,h1,h2,h3,h4⟩ | ⟨h1,h2⟩
   ·exact .inl ⟨j,.inr h1,h2,fun j' hj' ht=>by
     rcases hj' with rfl | hj'
     ·rw[hdi,hd]at ht;cases ht;exact absurd rfl hdt
     ·exact h3 j' hj' ht,h4⟩
   ·exact .inr ⟨fun j hj=>by
     rcases hj with rfl | hj
     ·rw[hdi,hd];intro h;cases h;exact hdt rfl
     ·exact h1 j hj,h2⟩
theorem EnvOK.same{M M':Nat->Prop}{E E':Env}(h:EnvOK ops val e M E)(h':EnvOK ops val e M' E'){t:Nat}(ht:∀ j,K6 ops j=some t->(M j↔M' j)):E.get t=E'.get t:=by
 rcases h t with⟨j,h1,h2,h3,h4⟩ | ⟨h1,h2⟩
 ·rcases h' t with⟨k,k1,k2,k3,k4⟩ | ⟨k1,k2⟩
  ·have a1:=h3 k ((ht k k2).2 k1) k2;have a2:=k3 j ((ht j h2).1 h1) h2;rw[h4,k4,Nat.le_antisymm a2 a1]
  ·exact absurd h2 (k1 j ((ht j h2).1 h1))
 ·rcases h' t with⟨k,k1,k2,k3,k4⟩ | ⟨k1,k2⟩
  ·exact absurd k2 (h1 k ((ht k k2).2 k1))
  ·rw[h2,k2]
theorem EnvOK.iff{M M':Nat->Prop}{E:Env}(h:EnvOK ops val e M E)(hm:∀ j,M j↔M' j):EnvOK ops val e M' E:=by
 have:M=M':=funext fun j=>propext (hm j)
 rw[<-this];exact h
end
variable {T:Nat->Option AF} {pr:Nat->Option (List V->Option V)}
def rwB(T:Nat->Option AF)(pr:Nat->Option (List V->Option V))(x y:AI):Bool:=!((Ew T pr x.op==1&&Ew T pr y.op==2)||(Ew T pr x.op==2&&Ew T pr y.op==1))
def Azb(T:Nat->Option AF)(pr:Nat->Option (List V->Option V))(deps:List (List Nat))(ops:List AI):Bool:=
 Asz T pr deps ops&&(List.range ops.length).all fun j=>(List.range j).all fun i=>Dx deps ops.length j i||(match ops[i]?,ops[j]? with
  | some x,some y=>rwB T pr x y
  | _,_=>false)
section
variable {Q:Env->St->Prop} {e:Env} {σ:St}
end
variable {T:Nat->Option AF} {pr:Nat->Option (List V->Option V)}
abbrev G6:=List It->Env->St->Option (Env × St)
abbrev Lb:=Nat->List V->St->Option (V × St)
def Al0(F:AF)(n:Nat)(p:Env × St):Option (V × St):=(B6 p.1 p.2 F.res).bind fun v=>leave n v p.2
def H0(rc:G6)(F:AF)(vs:List V)(σ:St):Option (V × St):=
 if vs.length=F.pars then(rc [.c F.body] (C2 0 vs) σ).bind (Al0 F σ.length) else none
def U6(rc:G6)(F:AF)(args:List V)(σ:St):Option (V × St):=
 (C6 σ args).bind fun ws=>(H0 rc F ws []).bind fun p=>(Dw p.2 p.1).map fun v=>(v,after σ args v)
def K7(T:Nat->Option AF)(pr:Nat->Option (List V->Option V))(rc:G6)(strict:Bool):Lb:=fun f args σ=>
 match pr f with
 | some s=>if strict&&!(Aj args).isEmpty then none else(C6 σ args).bind fun ws=>(s ws).map fun v=>(v,after σ args v)
 | none=>match T f with
  | none=>none
  | some F=>match F.thr,F.spec with
   | true,some s=>s args σ
   | true,none=>H0 rc F args σ
   | false,none=>if strict&&!(Aj args).isEmpty then none else U6 rc F args σ
   | false,some _=>none
def Air:AO->Bool
 | .callv _ _=>true
 | _=>false
def Ut:AO->Bool
 | .call _ _ | .callv _ _=>true
 | _=>false
def P6(rf:Bool->Lb)(strict:Bool)(op:AO)(e:Env)(σ:St):Option (V × St):=
 if Ut op then(if strict&&Air op then none else(Bt e op).bind fun p=>rf strict p.1 p.2 σ) else Ae op e σ
def L7(rf:Bool->Lb)(strict:Bool):List AI->Env->St->Option (Env × St)
 | [],e,σ=>some (e,σ)
 | i::l,e,σ=>match Cg e i with
  | some true=>(P6 rf strict i.op e σ).bind fun p=>L7 rf strict l (e.putO i.dst p.1) p.2
  | some false=>L7 rf strict l (e.putO i.dst .skp) σ
  | none=>none
def Acy:V->Option Bool
 | .bool b=>some b
 | _=>none
def Acz(rc:G6)(rf:Bool->Lb):G6:=fun k e σ=>
 match k with
 | []=>some (e,σ)
 | .b _::k=>rc k e σ
 | .l keep c::k=>rc (.c c::.l keep c::k) (e.keep keep) σ
 | .c c::k=>match c with
  | .skip=>rc k e σ
  | .reg kill ops=>(L7 rf false ops e σ).bind fun p=>rc k (p.1.del kill) p.2
  | .drw kill _ ops=>(L7 rf true ops e σ).bind fun p=>rc k (p.1.del kill) p.2
  | .seq a b=>rc (.c a::.c b::k) e σ
  | .cond c kill x y=>(Acy (Ab e c)).bind fun z=>rc (.c (if z then x else y)::k) (e.del kill) σ
  | .blk id c=>rc (.c c::.b id::k) e σ
  | .loop keep c=>rc (.l keep c::k) e σ
  | .exit id=>(exitTo id k).bind fun k'=>rc k' e σ
  | .ret=>some (e,σ)
/-! more steps give no other result -/
def LeC(a b:G6):Prop:=∀ k e σ r,a k e σ=some r->b k e σ=some r
def LeF(a b:Bool->Lb):Prop:=∀ s f vs σ r,a s f vs σ=some r->b s f vs σ=some r
theorem LeC.body{a b:G6}(h:LeC a b){F:AF}{vs:List V}{σ:St}{r:V × St}(hr:H0 a F vs σ=some r):H0 b F vs σ=some r:=by
 unfold H0 at hr ⊢
 split at hr
 ·rename_i hl;rw[if_pos hl];obtain⟨p,hp,hr⟩:=C9.1 hr;rw[h _ _ _ _ hp];exact hr
 ·cases hr
theorem LeC.pure{a b:G6}(h:LeC a b){F:AF}{vs:List V}{σ:St}{r:V × St}(hr:U6 a F vs σ=some r):U6 b F vs σ=some r:=by
 unfold U6 at hr ⊢;obtain⟨ws,hw,hr⟩:=C9.1 hr;obtain⟨p,hp,hr⟩:=C9.1 hr;rw[hw,Cz,h.body hp];exact hr
theorem LeC.call{a b:G6}(h:LeC a b):LeF (K7 T pr a) (K7 T pr b):=by
 intro s f vs σ r hr;unfold K7 at hr ⊢
 split at hr
 ·exact hr
 ·split at hr
  ·cases hr
  ·split at hr
   ·exact hr
   ·exact h.body hr
   ·split at hr
    ·cases hr
    ·rename_i hs;rw[if_neg hs];exact h.pure hr
   ·cases hr
theorem LeF.op{a b:Bool->Lb}(h:LeF a b){s:Bool}{op:AO}{e:Env}{σ:St}{r:V × St}(hr:P6 a s op e σ=some r):P6 b s op e σ=some r:=by
 unfold P6 at hr ⊢
 split at hr
 ·rename_i hc;rw[if_pos hc]
  split at hr
  ·cases hr
  ·rename_i hs;rw[if_neg hs];obtain⟨p,hp,hr⟩:=C9.1 hr;rw[hp,Cz];exact h _ _ _ _ _ hr
 ·rename_i hc;rw[if_neg hc];exact hr
theorem LeF.ops{a b:Bool->Lb}(h:LeF a b){s:Bool}:∀ {l:List AI} {e:Env} {σ:St} {r:Env × St},L7 a s l e σ=some r->L7 b s l e σ=some r
 | [],_,_,_,hr=>hr
 | i::l,e,σ,r,hr=>by
  unfold L7 at hr ⊢
  split at hr
  ·obtain⟨p,hp,hr⟩:=C9.1 hr;rw[h.op hp];exact h.ops hr
  ·exact h.ops hr
  ·cases hr
theorem LeC.step{a b:G6}{fa fb:Bool->Lb}(h:LeC a b)(hf:LeF fa fb):LeC (Acz a fa) (Acz b fb):=by
 intro k e σ r hr;unfold Acz at hr ⊢
 split at hr
 ·exact hr
 ·exact h _ _ _ _ hr
 ·exact h _ _ _ _ hr
 ·split at hr
  ·exact h _ _ _ _ hr
  ·obtain⟨p,hp,hr⟩:=C9.1 hr;rw[hf.ops hp];exact h _ _ _ _ hr
  ·obtain⟨p,hp,hr⟩:=C9.1 hr;rw[hf.ops hp];exact h _ _ _ _ hr
  ·exact h _ _ _ _ hr
  ·obtain⟨p,hp,hr⟩:=C9.1 hr;rw[hp];exact h _ _ _ _ hr
  ·exact h _ _ _ _ hr
  ·exact h _ _ _ _ hr
  ·obtain⟨p,hp,hr⟩:=C9.1 hr;rw[hp];exact h _ _ _ _ hr
  ·exact hr
/-! what the function gives comes of the code -/
def Pq(T:Nat->Option AF)(pr:Nat->Option (List V->Option V)):AC->Bool
 | .drw _ deps ops=>Azb T pr deps ops
 | .seq a b=>Pq T pr a&&Pq T pr b
 | .cond _ _ a b=>Pq T pr a&&Pq T pr b
 | .blk _ c=>Pq T pr c
 | .loop _ c=>Pq T pr c
 | _=>true
section
variable (hst:∀ f F,T f=some F->F.spec=none->Pq T pr F.body=true)
theorem Ap1{n:Nat}{v v':V}{σ1 σ':St}(h:leave n v σ1=some (v',σ')):(Cc v=true/\D7 n [] v.refs=true/\(∀ i ob,i<n->σ1[i]?=some ob->D7 n [] ob.refs=true)/\v'=v/\σ'=σ1.take n)\/∃ js,Gs n js v σ1=true/\v'=v.ren (ren n js)/\σ'=(σ1.take n++js.filterMap (σ1[·]?)).map (Ob.ren (ren n js)):=by
 unfold leave at h
 split at h
 ·rename_i hn;cases h;unfold Afx at hn;simp only[Af,Bd]at hn;exact .inl ⟨hn.1,hn.2.1,fun i ob hi ho=>hn.2.2 ob (Gq (by rw[Ep,if_pos hi];exact ho)),rfl,rfl⟩
 ·simp only at h
  split at h
  ·rename_i hs;cases h;exact .inr ⟨_,hs,rfl,rfl⟩
  ·cases h
inductive CallR (T:Nat->Option AF) (pr:Nat->Option (List V->Option V)) (strict:Bool) (f:Nat) (args:List V) (σ:St):V->St->Prop
 | prim {s:List V->Option V} {ws:List V} {v:V}:pr f=some s->(strict=true->Aj args=[])->C6 σ args=some ws->s ws=some v->CallR T pr strict f args σ v (after σ args v)
 | pure {ws:List V} {v:V}:(strict=true->Aj args=[])->C6 σ args=some ws->Fn T pr f ws v->CallR T pr strict f args σ v (after σ args v)
 | thr {F:AF} {v:V} {σ1:St}:pr f=none->T f=some F->F.thr=true->F.spec=none->Ev T pr (.fn f args σ v σ1)->CallR T pr strict f args σ v σ1
 | spec {F:AF} {s:List V->St->Option (V × St)} {v:V} {σ1:St}:pr f=none->T f=some F->F.thr=true->F.spec=some s->s args σ=some (v,σ1)->CallR T pr strict f args σ v σ1
theorem Ais{rf:Bool->Lb}{s:Bool}{op:AO}{e:Env}{σ:St}{r:V × St}(h:P6 rf s op e σ=some r):(Ut op=false/\Ae op e σ=some r)\/∃ f args,Bt e op=some (f,args)/\rf s f args σ=some r/\(s=true->∃ xs,op=.call f xs/\args=xs.map (Ab e)):=by
 unfold P6 at h
 split at h
 ·rename_i hc
  split at h
  ·cases h
  ·rename_i hs;obtain⟨⟨f,args⟩,hp,h⟩:=C9.1 h;refine .inr ⟨f,args,hp,h,fun hst=>?_⟩;subst hst
   cases op with
   | call f' xs=>
    simp only[Bt]at hp;cases hp;exact⟨xs,rfl,rfl⟩
   | callv x xs=>simp[Air]at hs
   | _=>simp[Ut]at hc
 ·rename_i hc;exact .inl ⟨by simpa using hc,h⟩
end
