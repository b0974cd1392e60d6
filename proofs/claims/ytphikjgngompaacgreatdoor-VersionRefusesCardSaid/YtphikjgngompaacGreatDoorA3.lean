/- THE PLAIN MACHINE, joined texts: Kr Kt Ks Ku Kv Kw Kx. -/
import Derived.Test.YtphikjgngompaacGreatDoorA2
import Derived.Scope
set_option linter.all false
/- THE PLAIN MACHINE IS RIGHT: the theorem. -/
namespace Go.Proofs.YtphikjgngompaacGreatDoor.KM
open Go Go.RowKit
variable {P:Program} {G:List (Nat × List V)} {T:Nat->Option AF} {pr:Nat->Option (List V->Option V)}
def Aq1{n:Nat}{ops:Array Oper}:∀ (qi:List AI) (os:List Oper) (k:Nat),Ll P G n ops qi os=true->ops.toList.drop k=os->ML P G n ops qi (List.range' k os.length)
 | [],[],_,_,_=>trivial
 | i::qi,o::os,k,h,hd=>by
  simp only[Ll,Al]at h
  have hk:ops[k]?=some o:=by
   have:(ops.toList.drop k)[0]?=some o:=by rw[hd];rfl
   simpa using this
  refine⟨⟨o,hk,h.1⟩,Aq1 qi os (k+1) h.2 ?_⟩;rw[<-Abw,hd];rfl
 | [],_::_,_,h,_=>by grind[Ll]
 | _::_,[],_,h,_=>by grind[Ll]
def Ape{n:Nat}{ops:Array Oper}:∀ {qi:List AI} {os:List Oper},Ll P G n ops qi os=true->qi.length=os.length/\∀ (i:Nat) (o:Oper),os[i]?=some o->∃ ai,qi[i]?=some ai/\Xg P G n ops ai o=true
 | [],[],_=>⟨rfl,fun i o h=>by simp at h⟩
 | a::qi,o::os,h=>by
  simp only[Ll,Al]at h;obtain⟨l,g⟩:=Ape h.2
  grind
 | [],_::_,h=>by grind[Ll]
 | _::_,[],h=>by grind[Ll]
def Atm{n:Nat}{ops:Array Oper}{qi:List AI}(h:Ll P G n ops qi ops.toList=true):∀ (L:List Nat),(∀ i∈L,i<ops.size)->ML P G n ops (D8 qi L) L
 | [],_=>trivial
 | j::L,hL=>by
  have hj:=hL j AE;obtain⟨ai,h1,h2⟩:=(Ape h).2 j ops[j] (by simp[hj]);unfold D8;rw[Nv,h1];exact⟨⟨ops[j],Array.getElem?_eq_getElem hj,h2⟩,Atm h L (fun i hi=>hL i (by simp[hi]))⟩
def Avv(qa:List (List Nat)):∀ (fuel t:Nat) (qe:List Nat),(∀ i∈qe,i<qa.length)->∀ i∈Pq qa fuel t qe,i<qa.length
 | 0,_,qe,h=>fun i hi=>h i (by grind[Pq])
 | fuel+1,t,qe,h=>by
  intro i hi;unfold Pq at hi;simp only at hi
  split at hi
  .rename_i j hj;refine Avv qa fuel _ (j::qe) (fun k hk=>?_) i hi;rcases B7.1 hk with rfl | hk
   .have:=(Rk.1 (Hg hj)).1
    grind
   grind
  grind
def Aog:∀ (vs:List V) (k n:Nat),(C7 k vs).get n=if k<=n then vs.getD (n - k) .und else .und
 | [],k,n=>by simp[C7,Env.get]
 | v::vs,k,n=>by
  simp only[C7,Env.get];by_cases h:k=n
  .grind
  .rw[if_neg h,Aog vs (k+1) n]
   grind
section
variable {n:Nat} {c:Code}
def A5d(h:D6 P G n .skip c=true):c=.skip\/∃ l,c=.label l:=by
 cases c<;>simp[D6]at h
 .grind
 grind
def A2l{b:Frame}{a:Act}{k:List Item}{cs:List Frame}{w:World}(h:c=.skip\/∃ l,c=.label l):step P (lone (b.at a (.code c::k)) cs w)=.next (lone (b.at a k) cs w):=by
 rcases h with rfl | ⟨l,rfl⟩
 .exact step_skip
 grind[step_label]
def A9a{kill:List Nat}{qi:List AI}(h:D6 P G n (.reg kill qi) c=true):∃ id ops,c=.region id ops false/\Ll P G n ops qi ops.toList=true:=by
 cases c with
 | region id ops d=>
  cases d with
  | false=>exact⟨id,ops,rfl,h⟩
  | true=>cases h
 | _=>cases h
def A9b{kill:List Nat}{qa:List (List Nat)}{qi:List AI}(h:D6 P G n (.drw kill qa qi) c=true):∃ id ops,c=.region id ops true/\Ll P G n ops qi ops.toList=true/\Qt qa ops.toList=true/\P.follows .mixedOrders=true:=by
 cases c with
 | region id ops d=>
  cases d with
  | false=>cases h
  | true=>
   simp only[D6,Al]at h
   grind
 | _=>cases h
def A9c{x y:AC}(h:D6 P G n (.seq x y) c=true):∃ c1 c2,c=.seq c1 c2/\D6 P G n x c1=true/\D6 P G n y c2=true:=by
 cases c<;>simp[D6]at h
 grind
theorem A9d{s:S}{e:Env}{z:Bool}(h:Amf s=true)(hc:Ac e s=.bool z):False:=by
 grind[Amf,Ac]
def A5e{s:S}{kill:List Nat}{x y:AC}{e:Env}{z:Bool}(hc:Ac e s=.bool z)(h:D6 P G n (.cond s kill x y) c=true):∃ o c1 c2,c=.cond o c1 c2/\B9 G s o=true/\D6 P G n x c1=true/\D6 P G n y c2=true:=by
 cases c<;>simp[D6]at h
 case cond=>grind
 all_goals grind[A9d]
def A9e{id:Nat}{x:AC}(h:D6 P G n (.blk id x) c=true):(∃ c1,c=.block id c1/\D6 P G n x c1=true)\/∃ c1,c=.scope c1/\1000000<=id/\D6 P G n x c1=true:=by
 cases c<;>simp[D6]at h
 .grind
 grind
def A5f{keep:List Nat}{x:AC}(h:D6 P G n (.loop keep x) c=true):∃ c1,c=.loop c1/\D6 P G n x c1=true:=by
 cases c<;>simp[D6]at h
 grind
def A5g{id:Nat}(h:D6 P G n (.exit id) c=true):c=.exit id/\id<1000000:=by
 cases c<;>simp[D6]at h
 grind
def A9f(h:D6 P G n .ret c=true):c=.ret:=by grind[D6]
end
def Ext.len{N:Nat}{γ γ':Gh}{σ σ':St}{w w':World}(hI:Inv G N γ σ w)(h:Inv G N γ' σ' w')(hx:Ext γ w γ' w'):σ.length<=σ'.length:=by
 rw[<-hI.len,<-h.len];rcases Vi γ.O.length with h0 | h0
 .omega
 .obtain⟨b1,g1,h1,_⟩:=hx.obj (γ.O.length - 1) (γ.O[γ.O.length - 1]' AA).1 (γ.O[γ.O.length - 1]' AA).2 (Cb _)
  grind
def Apf{N:Nat}{γ γ':Gh}{σ:St}{w w':World}{X:List (Nat × Nat)}(hI:Inv G N γ σ w)(hx:Ext γ w γ' w'):Ext γ w ⟨γ'.κ,γ'.O.take σ.length++X⟩ w':=
 ⟨hx.kap,hx.cell,fun i blk g hi=>by
  obtain⟨b1,g1,h1,h2,h3⟩:=hx.obj i blk g hi;have jm:i<σ.length:=by rw[<-hI.len];exact(An.1 hi).1
  grind⟩
def Ace{n:Nat}{js is:List Nat}(h:Ej n js is=true):∀ i∈is,i<n\/i∈js:=fun i hi=>by
 have:=Cc.1 h i hi
 grind
theorem Apg{N:Nat}{γ γ':Gh}{σ σ':St}{w w':World}{v:V}{u:Value}(hI:Inv G N γ σ w)(h:Inv G N γ' σ' w')(hx:Ext γ w γ' w')(hv:Ej σ.length [] v.refs=true)
  (hb:∀ i ob,i<σ.length->σ'[i]?=some ob->σ[i]?=some ob\/Ej σ.length [] ob.refs=true) (hr:RepV γ' w' v u) :
  ∃ γ2,RepV γ2 w' v u/\Inv G N γ2 (σ'.take σ.length) w'/\Ext γ w γ2 w'/\∀ b,γ2.κ b=γ'.κ b:=by
 obtain⟨i1,i2⟩:=h.leave (n:=σ.length) (js:=[]) (ρ:=fun i=>i) (Ext.len hI h hx) (fun i hi=>by cases hi) X4 (fun _ _=>rfl) (fun k hk=>by grind) (fun i ob hi ho j hj=>by
  rcases hi with hi | hi
  .rcases hb i ob hi ho with h1 | h1
   .obtain⟨p,_,qd⟩:=hI.of h1;exact .inl (by rw[<-hI.len];exact qd.refs_lt j hj)
   .exact Ace h1 j hj
  grind)
 have e1:(σ'.take σ.length++([]:List Nat).filterMap (σ'[·]?)).map (Ob.ren fun i=>i)=σ'.take σ.length:=by
  simp only[Rg,Bz];have:(Ob.ren fun i=>i)=id:=funext Apd;rw[this,List.map_id]
 rw[e1]at i1;have qP:=hr.renum (O:=γ'.O.take σ.length++([]:List Nat).filterMap (γ'.O[·]?)) (ρ:=fun i=>i) (fun i hi p hp=>i2 i (Ace hv i hi) p hp);rw[Akf]at qP;exact⟨_,qP,i1,Apf hI hx,fun _=>rfl⟩
theorem Aph{N:Nat}{γ γ':Gh}{σ σ':St}{w w':World}{v:V}{u:Value}{js:List Nat}(hI:Inv G N γ σ w)(h:Inv G N γ' σ' w')(hx:Ext γ w γ' w')(hl:Hj σ.length js v σ'=true)(hr:RepV γ' w' v u):
  ∃ γ2,RepV γ2 w' (v.ren (ren σ.length js)) u/\Inv G N γ2 ((σ'.take σ.length++js.filterMap (σ'[·]?)).map (Ob.ren (ren σ.length js))) w'/\Ext γ w γ2 w'/\∀ b,γ2.κ b=γ'.κ b:=by
 unfold Hj at hl;simp only[Al,decide_eq_true_eq,Cc]at hl;obtain⟨_,hv,qI,qN,qM⟩:=hl
 obtain⟨i1,i2⟩:=h.leave (n:=σ.length) (js:=js) (ρ:=ren σ.length js) (Ext.len hI h hx) qM qN (fun i hi=>by grind[ren]) (fun k hk=>by
  have jn:=(qM js[k] (Nw hk)).1;unfold ren;rw[if_neg AA];congr 1;have hf:js.findIdx (·==js[k])<js.length:=List.findIdx_lt_length_of_exists ⟨js[k],Nw hk,by simp⟩;have hg:=List.findIdx_getElem (w:=hf);have jl:js[js.findIdx (·==js[k])]=js[k]:=by simpa using hg
  exact Ao7 qN (Cb hf) (by grind)) (fun i ob hi ho j hj=>by
  refine Ace (qI ob ?_) j hj;rw[Cs];rcases hi with hi | hi
  .exact .inl (Hg (by rw[Vh,if_pos hi];exact ho))
  grind)
 exact⟨_,hr.renum (fun i hi p hp=>i2 i (Ace hv i hi) p hp),i1,Apf hI hx,fun _=>rfl⟩
theorem Qj:∀ (js:List Nat) (σ:St),(σ.freeze js).length=σ.length
 | [],_=>rfl
 | i::js,σ=>by
  simp only[St.freeze]
  split
  .rw[Qj js,Ny]
  .exact Qj js σ
def A5h{γ:Gh}{w w1:World}{κ:E1}{O:List (Nat × Nat)}(h:Ext γ w ⟨κ,O⟩ w1)(O':List (Nat × Nat)):Ext γ w ⟨κ,O++O'⟩ w1 where
 kap:=h.kap
 cell:=h.cell
 obj:=fun i blk g hi=>by
  obtain⟨b',g',h1,h2,h3⟩:=h.obj i blk g hi
  grind
def A5i{N M:Nat}{O:List (Nat × Nat)}{γ':Gh}{σ σ0:St}{w1:World}(h1:Inv G N ⟨γ'.κ,O⟩ σ w1)(h2:Inv G M γ' σ0 w1)(hM:∀ (i:Nat) (p:Nat × Nat),O[i]?=some p->p.1<M)(qU:N<=M):
  Inv G N ⟨γ'.κ,O++γ'.O⟩ (σ++σ0.map (Ob.ren (·+σ.length))) w1 where
 base:=h1.base
 len:=by
  have e1:=h1.len;have e2:=h2.len
  grind
 nd:=by
  rw[Fm,List.nodup_append];refine⟨h1.nd,h2.nd,fun a ha b hb=>?_⟩;obtain⟨p,hp,rfl⟩:=Di.1 ha;obtain⟨q,hq,rfl⟩:=Di.1 hb;obtain⟨i,hi,rfl⟩:=Mu hp;obtain⟨j,hj,rfl⟩:=Mu hq;have:=hM i _ (Cb hi);have:=h2.low j _ (Cb hj);omega
 low:=fun i p hp=>by
  by_cases hi:i<O.length
  .exact h1.low i p (by grind)
  .rw[Fk AA]at hp;exact Dd qU (h2.low _ p hp)
 obj:=fun i ob p hs hp=>by
  have hl:O.length=σ.length:=h1.len;by_cases hi:i<σ.length
  .rw[Ex hi]at hs;rw[Ex AA]at hp;have:=(h1.obj i ob p hs hp).renum (O:=O++γ'.O) (ρ:=fun i=>i) (fun j _ q hq=>by grind)
   grind[Apd]
  .rw[Fk AA,Ak]at hs;rw[Fk AA]at hp;obtain⟨jh,h0,rfl⟩:=Ci.1 hs
   exact(h2.obj _ jh p h0 (by grind)).renum (O:=O++γ'.O) (ρ:=(·+σ.length)) (fun j _ q hq=>by
    grind)
 dom:=h1.dom
 glob:=fun g r hg=>by
  obtain⟨b,o,k,row,hu,a1,a2,a3,a4⟩:=Mz (h1.glob g r hg);rw[hu];exact .imm row a1 a2 a3 a4
 gsz:=h1.gsz
def Ado(hT:∀ f F,T f=some F->F.spec=none->Q9 P G f F=true){f:Nat}{args:List V}{σ σ' σ2:St}{e':Env}{F:AF}{v v2:V}(hF:T f=some F)(qc:F.spec=none)(hl:args.length=F.pars)(qf:Ca e' σ' F.res=some v)(qo:Cd v=true)
  (hk:∀ (γ γ':Gh) (w w':World) (N:Nat) (u:Value),Inv G N γ σ w->Inv G N γ' σ' w'->Ext γ w γ' w'->RepV γ' w' v u->∃ γ2,RepV γ2 w' v2 u/\Inv G N γ2 σ2 w'/\Ext γ w γ2 w'/\∀ b,b<N->γ2.κ b=γ'.κ b)
  (ih:Alc P G (.code [.c F.body] (C7 0 args) σ e' σ')):Alc P G (.fn f args σ v2 σ2):=by
 intro us w γ N qt qJ hI;obtain⟨fn,c,hf,hb,hC,hR,qO,hn⟩:=Yo (hT f F hF qc);intro cs
 let b:Frame:={ (default:Frame) with fn:=f,kind:=.normal }
 have jd:(us.toArray++Array.replicate (fn.ntmps - us.toArray.size) undef).size=fn.ntmps:=by simp;omega
 have qx:Frame.enter P f us.toArray .normal=b.at { tmps:=us.toArray++Array.replicate (fn.ntmps - us.toArray.size) undef,defers:=[] } [.code c]:=by
  simp[Frame.enter,Frame.at,hf,hb,b]
 have qS:RepE γ w (C7 0 args) (us.toArray++Array.replicate (fn.ntmps - us.toArray.size) undef):=fun m=>by
  rw[Aog,if_pos (As _),Ab5];by_cases hm:m<args.length
  .have:=qJ m hm
   have e1:(us.toArray++Array.replicate (fn.ntmps - us.toArray.size) undef).getD m undef=us.getD m undef:=by
    rw[Array.getD_eq_getD_getElem?,Array.getElem?_append_left (by grind),Abj,Fl]
   grind
  .rw[show args.getD m .und=.und by grind];exact .und
 obtain⟨a',w',qj,hs,γ',g1,g2,g3,g4,g5,g6,g7⟩:=ih fn.ntmps [] [.code c] { tmps:=us.toArray++Array.replicate (fn.ntmps - us.toArray.size) undef,defers:=[] } w γ N (.c hC .nil) jd rfl qS hI b cs;rw[<-qx]at hs
 have qp:∃ u,(results fn a'.tmps).run P w'=.ok u w'/\RepV γ' w' v u:=by
  have qY:∀ us':List Value,(fn.results.toList.mapM (Zy a'.tmps)).run P w'=.ok us' w'->(results fn a'.tmps).run P w'=.ok (if h:us'.toArray.size=1 then us'.toArray[0] else .tuple us'.toArray) w':=fun us' h=>by
   have e1:results fn a'.tmps=(do let vs <-fn.results.mapM (Zy a'.tmps);pure (if h:vs.size=1 then vs[0] else .tuple vs)):=by
    unfold results;congr 2
   simp_all [Array.mapM_eq_mapM_toList]
  unfold Ca at qf
  split at qf
  .rename_i r jb;rw[jb]at hR;have hm:[r].mapM (Gr e' σ')=some [v]:=by simp[qf]
   obtain⟨us',k1,k2,k3,k4⟩:=Ajd (P:=P) g1 g2 hR hm;obtain⟨u,rfl⟩:=Agu.1 (show us'.length=1 by grind);refine⟨u,by grind,?_⟩;simpa using k4 0 AE
  .rename_i rs jp;simp only[Ci]at qf;obtain⟨vs,hm,rfl⟩:=qf;obtain⟨us',k1,k2,k3,k4⟩:=Ajd (P:=P) g1 g2 hR hm
   have jo:us'.length≠1:=fun h1=>by
    have:F.res.length=1:=by
     have:=(Qn hm).1;omega
    grind[List.length_eq_one_iff]
   refine⟨.tuple us'.toArray,by grind,.tup k2 (fun j hj=>?_)⟩;refine A89 ?_ (k4 j hj);have:=Cc.1 (show vs.all Ga=true from qo) (vs.getD j .und) (by grind);omega
 obtain⟨u,hu,hv⟩:=qp;obtain⟨γ2,i1,i2,i3,i4⟩:=hk γ γ' w w' N u hI g2 g3 hv;exact⟨.returned u,w',_,⟨u,γ2,rfl,i1,i2,i3,g4,fun b hb=>(i4 b hb).trans (g5 b hb)⟩,hs,rfl,rfl,g7,rfl,fn,hf,hu⟩
def Axq(hT:∀ f F,T f=some F->F.spec=none->Q9 P G f F=true)(hS:∀ f F s,T f=some F->F.spec=some s->Sl P G f s)(ja:∀ f s,pr f=some s->Iy P G f s){j:J}(h:Ev T pr j):Alc P G j:=by
 induction h with
 | opsNil=>
  intro n D ops L a w γ N Q hM ha hd hE hI hQ
  cases L with
  | nil=>exact hQ a w ⟨γ,hE,hI,Ext.refl _ _,Below.refl _ _,fun _ _=>rfl,ha,hd⟩
  | cons=>exact hM.elim
 | opsSkip hw _ ih=>
  intro n D ops L a w γ N Q hM ha hd hE hI hQ;obtain⟨j,js,o,rfl,ho,qd,ql⟩:=hM.tail;obtain⟨k1,k2,k3,k4⟩:=Rm qd;refine Bdi ho (Ro k3 ha hE hw) ?_;obtain⟨p1,p2,p3⟩:=Rx (u:=undef) k2 ha hE .skp;rw[k1]at p1 p2 p3;exact ih n D ops js _ w γ N Q ql p2 (p3.trans hd) (by grind) hI hQ
 | @opsVal i l e e' σ σ1 σ' v hw hv _ ih=>
  intro n D ops L a w γ N Q hM ha hd hE hI hQ;obtain⟨j,js,o,rfl,ho,qd,ql⟩:=hM.tail;obtain⟨k1,k2,k3,k4⟩:=Rm qd;refine Ut (n:=n) ho (Ro k3 ha hE hw) ?_
  have jg:Xf P G i.op o.op=true:=by
   split at k4
   .grind[Af]
   .grind[Af]
   .exact k4
  obtain⟨u,w1,γ1,hr,jf,qT,qR,qV,qX⟩:=Bhv jg hE hI hv;obtain⟨p1,p2,p3⟩:=Rx (u:=u) k2 ha (hE.ext qR) jf
  have next:wpOps P ops Q js (a.put o.dst u) w1:=by
   rw[<-k1];exact ih n D ops js _ w1 γ1 N Q ql p2 (p3.trans hd) p1 qT (fun a' w' hl=>hQ a' w' (hl.after qR qV qX))
  unfold Oper.wp;rcases hr with hr | ⟨hr,rfl⟩
  .rw[hr];exact next
  .rw[hr];exact next
 | @opsPrim i f args l e e' σ σ' s vs v hw hc hp hx hs _ ih=>
  intro n D ops L a w γ N Q hM ha hd hE hI hQ;obtain⟨j,js,o,rfl,ho,qd,ql⟩:=hM.tail;obtain⟨k1,k2,k3,k4⟩:=Rm qd;refine Ut (n:=n) ho (Ro k3 ha hE hw) ?_;obtain⟨⟨fn,c,hf,hb,hn⟩,qE⟩:=ja f s hp;obtain⟨us,qg,qv,qr⟩:=Vs (ops:=ops) (n:=n) k4 hc hE hI hf hb hn;obtain⟨κ1,z1,z2,z3,z4,_⟩:=hI.freeze (Lv σ args);obtain⟨ml,mg⟩:=Qn hx;unfold Oper.wp;rw[qg];have qA:=Ain z1;refine(qE κ1 w vs us v qA.glob (fun g r hg=>(qA.gsz g r hg).2) z1.dom AA (fun j hj=>?_) hs).mono ?_
  .grind[X8]
  rintro _ w1 ⟨u,κ',rfl,hu,qm,hk,qG⟩;obtain⟨γ1,q1,q2,q3,q4,q5⟩:=Aoe (args:=args) hI z1 z2 z3 qm hk qG hu;obtain⟨p1,p2,p3⟩:=Rx (u:=u) k2 ha (hE.ext q2) q3;show wpOps P ops Q js (a.put o.dst u) w1;rw[<-k1];exact ih n D ops js _ w1 _ N Q ql p2 (p3.trans hd) p1 q1 (fun a' w' hl=>hQ a' w' (hl.after q2 q5 q4))
 | @opsPure i f args l e e' σ σ0 σ' F vs v v' hw hc hF hthr qc hx _ hv _ ihf ih=>
  intro n D ops L a w γ N Q hM ha hd hE hI hQ;obtain⟨j,js,o,rfl,ho,qd,ql⟩:=hM.tail;obtain⟨k1,k2,k3,k4⟩:=Rm qd;refine Ut (n:=n) ho (Ro k3 ha hE hw) ?_;obtain⟨fn,c,hf,hb,_,_,_,hn⟩:=Yo (hT f F hF qc);obtain⟨us,qg,qv,qr⟩:=Vs (ops:=ops) (n:=n) k4 hc hE hI hf hb hn;obtain⟨κ1,z1,z2,z3,z4,_⟩:=hI.freeze (Lv σ args);obtain⟨ml,mg⟩:=Qn hx;unfold Oper.wp;rw[qg];have qA:=Ain z1;refine(ihf us w ⟨κ1,[]⟩ w.heap.size AA (fun j hj=>?_) qA).mono ?_
  .have qC:j<args.length:=by omega
   obtain⟨y,hy,qH⟩:=mg j _ (Cb qC);rw[show vs.getD j .und=y by grind];have:=qr j qC;rw[show args.getD j .und=args[j] by grind]at this;exact .one (X8 hI z2 z4 qH this [])
  rintro _ w1 ⟨u,γ',rfl,hu,qn,qs,qm,hk⟩;obtain⟨κ2,y1,y2,y3,y4,_⟩:=qn.freeze (Fy σ0 9 v.refs.eraseDups);have je:RepV ⟨κ2,[]⟩ w1 v' u:=Ab7 qn y2 y4 hv hu [];obtain⟨γ1,q1,q2,q3,q4,q5⟩:=Aoe (args:=args) hI z1 z2 z3 qm (fun b qq=>(y3 b qq).trans (hk b qq)) y1.dom je;obtain⟨p1,p2,p3⟩:=Rx (u:=u) k2 ha (hE.ext q2) q3;show wpOps P ops Q js (a.put o.dst u) w1;rw[<-k1];exact ih n D ops js _ w1 _ N Q ql p2 (p3.trans hd) p1 q1 (fun a' w' hl=>hQ a' w' (hl.after q2 q5 q4))
 | @opsOwn i f args l e e' σ σ0 σ' F vs v hw hc hF hthr qc hx _ _ ihf ih=>
  intro n D ops L a w γ N Q hM ha hd hE hI hQ;obtain⟨j,js,o,rfl,ho,qd,ql⟩:=hM.tail;obtain⟨k1,k2,k3,k4⟩:=Rm qd;refine Ut (n:=n) ho (Ro k3 ha hE hw) ?_;obtain⟨fn,c,hf,hb,_,_,_,hn⟩:=Yo (hT f F hF qc);obtain⟨us,qg,qv,qr⟩:=Vs (ops:=ops) (n:=n) k4 hc hE hI hf hb hn;obtain⟨κ1,z1,z2,z3,z4,_⟩:=hI.freeze (Lv σ args);obtain⟨ml,mg⟩:=Qn hx;unfold Oper.wp;rw[qg];have qA:=Ain z1;refine(ihf us w ⟨κ1,[]⟩ w.heap.size AA (fun j hj=>?_) qA).mono ?_
  .have qC:j<args.length:=by omega
   obtain⟨y,hy,qH⟩:=mg j _ (Cb qC);rw[show vs.getD j .und=y by grind];have:=qr j qC;rw[show args.getD j .und=args[j] by grind]at this;exact .one (X8 hI z2 z4 qH this [])
  rintro _ w1 ⟨u,γ',rfl,hu,qn,qs,qm,hk⟩;obtain⟨i1,i2⟩:=z1.more (w':=w1) (κ':=γ'.κ) (fun b qq=>qm.block b qq) qm.size hk qn.dom;have qt:(σ.freeze (Lv σ args)).length=σ.length:=Qj _ _;have q1:=A5i i1 qn (fun i p hp=>hI.oblt hp) hI.base;rw[qt]at q1;have q2:Ext γ w ⟨γ'.κ,γ.O++γ'.O⟩ w1:=A5h (z2.trans i2) _
  have q3:RepV ⟨γ'.κ,γ.O++γ'.O⟩ w1 (v.ren (·+σ.length)) u:=hu.renum (fun i hi p hp=>by
   rw[Fk (by rw[hI.len];omega),hI.len,Nat.add_sub_cancel];exact hp)
  obtain⟨p1,p2,p3⟩:=Rx (u:=u) k2 ha (hE.ext q2) q3;show wpOps P ops Q js (a.put o.dst u) w1;rw[<-k1];exact ih n D ops js _ w1 _ N Q ql p2 (p3.trans hd) p1 q1 (fun a' w' hl=>hQ a' w' (hl.after q2 (qm.mono hI.base) (fun b qq=>(hk b (O8 qq hI.base)).trans (z3 b qq))))
 | @opsAny i f args l e e' σ σ1 σ' F v hw hc hF qc _ _ ihf ih=>
  intro n D ops L a w γ N Q hM ha hd hE hI hQ;obtain⟨j,js,o,rfl,ho,qd,ql⟩:=hM.tail;obtain⟨k1,k2,k3,k4⟩:=Rm qd;refine Ut (n:=n) ho (Ro k3 ha hE hw) ?_;obtain⟨fn,c,hf,hb,_,_,_,hn⟩:=Yo (hT f F hF qc);obtain⟨us,qg,qv,qr⟩:=Vs (ops:=ops) (n:=n) k4 hc hE hI hf hb hn;unfold Oper.wp;rw[qg];refine(ihf us w γ N qv qr hI).mono ?_;rintro _ w1 ⟨u,γ',rfl,hu,qn,qs,qm,hk⟩;obtain⟨p1,p2,p3⟩:=Rx (u:=u) k2 ha (hE.ext qs) hu;show wpOps P ops Q js (a.put o.dst u) w1;rw[<-k1];exact ih n D ops js _ w1 _ N Q ql p2 (p3.trans hd) p1 qn (fun a' w' hl=>hQ a' w' (hl.after qs qm hk))
 | @opsThr i f args l e e' σ σ1 σ' F v hw hc hF hthr qc _ _ ihf ih=>
  intro n D ops L a w γ N Q hM ha hd hE hI hQ;obtain⟨j,js,o,rfl,ho,qd,ql⟩:=hM.tail;obtain⟨k1,k2,k3,k4⟩:=Rm qd;refine Ut (n:=n) ho (Ro k3 ha hE hw) ?_;obtain⟨fn,c,hf,hb,_,_,_,hn⟩:=Yo (hT f F hF qc);obtain⟨us,qg,qv,qr⟩:=Vs (ops:=ops) (n:=n) k4 hc hE hI hf hb hn;unfold Oper.wp;rw[qg];refine(ihf us w γ N qv qr hI).mono ?_;rintro _ w1 ⟨u,γ',rfl,hu,qn,qs,qm,hk⟩;obtain⟨p1,p2,p3⟩:=Rx (u:=u) k2 ha (hE.ext qs) hu;show wpOps P ops Q js (a.put o.dst u) w1;rw[<-k1];exact ih n D ops js _ w1 _ N Q ql p2 (p3.trans hd) p1 qn (fun a' w' hl=>hQ a' w' (hl.after qs qm hk))
 | @opsSpec i f args l e e' σ σ1 σ' F s v hw hc hF hthr qc hs _ ih=>
  intro n D ops L a w γ N Q hM ha hd hE hI hQ;obtain⟨j,js,o,rfl,ho,qd,ql⟩:=hM.tail;obtain⟨k1,k2,k3,k4⟩:=Rm qd;refine Ut (n:=n) ho (Ro k3 ha hE hw) ?_;obtain⟨⟨fn,c,hf,hb,hn⟩,qz⟩:=hS f F s hF qc;obtain⟨us,qg,qv,qr⟩:=Vs (ops:=ops) (n:=n) k4 hc hE hI hf hb hn;unfold Oper.wp;rw[qg];refine(qz _ σ v σ1 hs us w γ N qv qr hI).mono ?_;rintro _ w1 ⟨u,γ',rfl,hu,qn,qs,qm,hk⟩;obtain⟨p1,p2,p3⟩:=Rx (u:=u) k2 ha (hE.ext qs) hu;show wpOps P ops Q js (a.put o.dst u) w1;rw[<-k1];exact ih n D ops js _ w1 _ N Q ql p2 (p3.trans hd) p1 qn (fun a' w' hl=>hQ a' w' (hl.after qs qm hk))
 | fn hF qc hl _ qf hok1 hok2 hok3 ih=>
  refine Ado hT hF qc hl qf hok1 (fun γ γ' w w' N u hI h2 hx hv=>?_) ih
  grind[Apg]
 | fnL hF qc hl _ qf qd ih=>
  refine Ado hT hF qc hl qf (by simp_all [Hj]) (fun γ γ' w w' N u hI h2 hx hv=>?_) ih
  grind[Aph]
 | fnS hF qc hl _ qf qo hset hok2 hok3 ih=>
  refine Ado hT hF qc hl qf qo (fun γ γ' w w' N u hI h2 hx hv=>?_) ih;obtain⟨κ2,y1,y2,y3,y4,_⟩:=h2.freeze _;obtain⟨γ2,i1,i2,i3,i4⟩:=Apg hI y1 (hx.trans y2) hok2 hok3 (Ab7 h2 y2 y4 hset hv γ'.O)
  grind
 | fnZ hF qc hl _ qf qo hset qd ih=>
  refine Ado hT hF qc hl qf qo (fun γ γ' w w' N u hI h2 hx hv=>?_) ih;obtain⟨κ2,y1,y2,y3,y4,_⟩:=h2.freeze _;obtain⟨γ2,i1,i2,i3,i4⟩:=Aph hI y1 (hx.trans y2) qd (Ab7 h2 y2 y4 hset hv γ'.O)
  grind
 | cNil=>
  intro n D qh a w γ N hM ha hd hE hI b cs;cases hM;exact⟨a,w,[],.one step_end,γ,hE,hI,Ext.refl _ _,Below.refl _ _,fun _ _=>rfl,ha,hd⟩
 | cSkip _ ih=>
  intro n D qh a w γ N hM ha hd hE hI b cs
  cases hM with
  | c qd hM=>
   have jc:=A5d qd;obtain⟨a',w',t',hs,hl⟩:=ih n D _ a w γ N hM ha hd hE hI b cs;exact⟨a',w',t',.head (A2l jc) hs,hl⟩
 | @cReg kill qi k e e1 e' σ σ1 σ' _ _ ih1 ih2=>
  intro n D qh a w γ N hM ha hd hE hI b cs
  cases hM with
  | @c _ _ _ qj qd hM=>
   obtain⟨id,ops,rfl,qy⟩:=A9a qd
   have hw:=ih1 n D ops (List.range ops.size) a w γ N (fun ex a' w'=>ex=.normal/\Leaves G N n D γ σ w e1 σ1 a' w') (by
    have:=Aq1 qi ops.toList 0 qy AE
    grind[List.range_eq_range']) ha hd hE hI (fun a' w' h=>⟨rfl,h⟩)
   obtain⟨ex,a1,w1,⟨rfl,γ1,q1,q2,q3,q4,q5,q6,q7⟩,qw⟩:=wp_ops _ a w hw b qj cs;obtain⟨a',w',t',hs,hl⟩:=ih2 n D _ a1 w1 γ1 N hM q6 q7 (q1.del kill) q2 b cs;exact⟨a',w',t',.head step_region (Steps.trans qw hs),hl.after q3 q4 q5⟩
 | @cDrw kill qa qi k e e1 e' σ σ1 σ' E2 _ hE2 _ ih1 ih2=>
  intro n D qh a w γ N hM ha hd hE hI b cs
  cases hM with
  | @c _ _ _ qj qd hM=>
   obtain⟨id,ops,rfl,qy,qB,qZ⟩:=A9b qd;obtain⟨d1,d2⟩:=hI.drew;have qt:qa.length=ops.size:=by simpa using (Ac4 qB).1
   have qK:∀ t,Region.schedule (P.follows .mixedOrders) ops t=P5 qa t:=fun t=>by
    grind[Region.schedule,Bdh]
   have hw:=ih1 (w.tape w.drawn (.order b.fn id)) n D ops (P5 qa (w.tape w.drawn (.order b.fn id))) a w.drew γ N (fun ex a' w'=>ex=.normal/\Leaves G N n D γ σ w.drew (E2 (w.tape w.drawn (.order b.fn id))) σ1 a' w')
    (Atm qy _ (fun i hi=>by rw[<-qt];exact Avv qa _ _ [] (fun i hi=>by cases hi) i hi)) ha hd (hE.ext d2) d1 (fun a' w' h=>⟨rfl,h⟩)
   obtain⟨ex,a1,w1,⟨rfl,γ1,q1,q2,q3,q4,q5,q6,q7⟩,qw⟩:=wp_ops _ a w.drew hw b qj cs;have ji:RepE γ1 w1 e1 a1.tmps:=fun m=>by rw[<-hE2 (w.tape w.drawn (.order b.fn id)) m];exact q1 m
   obtain⟨a',w',t',hs,hl⟩:=ih2 n D _ a1 w1 γ1 N hM q6 q7 (ji.del kill) q2 b cs;have qu:=step_region_draw (P:=P) (b:=b) (a:=a) (k:=qj) (cs:=cs) (w:=w) (ops:=ops) (id:=id);rw[qK]at qu;exact⟨a',w',t',.head qu (Steps.trans qw hs),(Leaves.after (σ:=σ) (σ1:=σ) d2 (Below.refl _ _).drew (fun _ _=>rfl) (Leaves.after (σ:=σ) q3 q4 q5 hl))⟩
 | cSeq _ ih=>
  intro n D qh a w γ N hM ha hd hE hI b cs
  cases hM with
  | c qd hM=>
   obtain⟨c1,c2,rfl,h1,h2⟩:=A9c qd;obtain⟨a',w',t',hs,hl⟩:=ih n D _ a w γ N (.c h1 (.c h2 hM)) ha hd hE hI b cs;exact⟨a',w',t',.head step_seq hs,hl⟩
 | @cCond s kill x y k e e' σ σ' z hc _ ih=>
  intro n D qh a w γ N hM ha hd hE hI b cs
  cases hM with
  | c qd hM=>
   obtain⟨o,c1,c2,rfl,h1,h2,h3⟩:=A5e hc qd;have hr:=Y8 (a:=a) h1 hE hI;rw[hc]at hr;have hz:=Pb (Bf rfl hr);obtain⟨a',w',t',hs,hl⟩:=ih n D _ a w γ N (.c (c:=if z then c1 else c2) (by grind) hM) ha hd (hE.del kill) hI b cs;exact⟨a',w',t',.head (step_cond hz) hs,hl⟩
 | cBlk _ ih=>
  intro n D qh a w γ N hM ha hd hE hI b cs
  cases hM with
  | c qd hM=>
   rcases A9e qd with⟨c1,rfl,h1⟩ | ⟨c1,rfl,hi,h1⟩
   .obtain⟨a',w',t',hs,hl⟩:=ih n D _ a w γ N (.c h1 (.b hM)) ha hd hE hI b cs;exact⟨a',w',t',.head step_block hs,hl⟩
   .obtain⟨a',w',t',hs,hl⟩:=ih n D _ a w γ N (.c h1 (.s hi hM)) ha hd hE hI b cs;exact⟨a',w',t',.head step_scope hs,hl⟩
 | cEnd _ ih=>
  intro n D qh a w γ N hM ha hd hE hI b cs
  cases hM with
  | b hM=>
   obtain⟨a',w',t',hs,hl⟩:=ih n D _ a w γ N hM ha hd hE hI b cs;exact⟨a',w',t',.head step_inBlock hs,hl⟩
  | s _ hM=>
   obtain⟨a',w',t',hs,hl⟩:=ih n D _ a w γ N hM ha hd hE hI b cs;exact⟨a',w',t',.head step_inScope hs,hl⟩
 | cLoop _ ih=>
  intro n D qh a w γ N hM ha hd hE hI b cs
  cases hM with
  | c qd hM=>
   obtain⟨c1,rfl,h1⟩:=A5f qd;exact ih n D _ a w γ N (.l' h1 hM) ha hd hE hI b cs
 | @cAgain keep c k e e' σ σ' _ ih=>
  intro n D qh a w γ N hM ha hd hE hI b cs
  cases hM with
  | l qd hM=>
   obtain⟨a',w',t',hs,hl⟩:=ih n D _ a w γ N (.c qd (.l qd hM)) ha hd (hE.keep keep) hI b cs;exact⟨a',w',t',.head step_inLoop hs,hl⟩
  | l' qd hM=>
   obtain⟨a',w',t',hs,hl⟩:=ih n D _ a w γ N (.c qd (.l qd hM)) ha hd (hE.keep keep) hI b cs;exact⟨a',w',t',.head step_loop hs,hl⟩
 | cExit hk _ ih=>
  intro n D qh a w γ N hM ha hd hE hI b cs
  cases hM with
  | c qd hM=>
   obtain⟨rfl,qq⟩:=A5g qd;obtain⟨qj,h1,h2⟩:=hM.exit qq hk;obtain⟨a',w',t',hs,hl⟩:=ih n D _ a w γ N h2 ha hd hE hI b cs;exact⟨a',w',t',.head (step_exit h1) hs,hl⟩
 | cRet=>
  intro n D qh a w γ N hM ha hd hE hI b cs
  cases hM with
  | c qd hM=>
   obtain rfl:=A9f qd;exact⟨a,w,_,.one step_ret,γ,hE,hI,Ext.refl _ _,Below.refl _ _,fun _ _=>rfl,ha,hd⟩
variable {T:Nat->Option AF} {pr:Nat->Option (List V->Option V)}
def W(T:Nat->Option AF)(pr:Nat->Option (List V->Option V))(k:List It)(e:Env)(σ:St)(Q:Env->St->Prop):Prop:=∃ e' σ',Ev T pr (.code k e σ e' σ')/\Q e' σ'
def WO(T:Nat->Option AF)(pr:Nat->Option (List V->Option V))(l:List AI)(e:Env)(σ:St)(Q:Env->St->Prop):Prop:=∃ e' σ',Ev T pr (.ops l e σ e' σ')/\Q e' σ'
section
variable {Q:Env->St->Prop} {e:Env} {σ:St} {k:List It}
def Bhw{a b:AC}(h:W T pr (.c a::.c b::k) e σ Q):W T pr (.c (.seq a b)::k) e σ Q:=let ⟨e',σ',h,q⟩:=h;⟨e',σ',.cSeq h,q⟩
def Bdj(h:W T pr k e σ Q):W T pr (.c .skip::k) e σ Q:=let ⟨e',σ',h,q⟩:=h;⟨e',σ',.cSkip h,q⟩
def Bhx{id:Nat}{c:AC}(h:W T pr (.c c::.b id::k) e σ Q):W T pr (.c (.blk id c)::k) e σ Q:=let ⟨e',σ',h,q⟩:=h;⟨e',σ',.cBlk h,q⟩
def Bhy{id:Nat}(h:W T pr k e σ Q):W T pr (.b id::k) e σ Q:=let ⟨e',σ',h,q⟩:=h;⟨e',σ',.cEnd h,q⟩
def Bdk{keep:List Nat}{c:AC}(h:W T pr (.l keep c::k) e σ Q):W T pr (.c (.loop keep c)::k) e σ Q:=let ⟨e',σ',h,q⟩:=h;⟨e',σ',.cLoop h,q⟩
def A9g{keep:List Nat}{c:AC}(h:W T pr (.c c::.l keep c::k) (e.keep keep) σ Q):W T pr (.l keep c::k) e σ Q:=let ⟨e',σ',h,q⟩:=h;⟨e',σ',.cAgain h,q⟩
def Bdl{id:Nat}{k':List It}(hk:exitTo id k=some k')(h:W T pr k' e σ Q):W T pr (.c (.exit id)::k) e σ Q:=let ⟨e',σ',h,q⟩:=h;⟨e',σ',.cExit hk h,q⟩
def Bhz(q:Q e σ):W T pr (.c .ret::k) e σ Q:=⟨e,σ,.cRet,q⟩
def Bh0(q:Q e σ):W T pr [] e σ Q:=⟨e,σ,.cNil,q⟩
def Avw{c:S}{kill:List Nat}{x y:AC}{z:Bool}(hc:Ac e c=.bool z)(h1:z=true->W T pr (.c x::k) (e.del kill) σ Q)(h2:z=false->W T pr (.c y::k) (e.del kill) σ Q):W T pr (.c (.cond c kill x y)::k) e σ Q:=by
 cases z with
 | true=>
  obtain⟨e',σ',h,q⟩:=h1 rfl;exact⟨e',σ',.cCond hc h,q⟩
 | false=>
  obtain⟨e',σ',h,q⟩:=h2 rfl;exact⟨e',σ',.cCond hc h,q⟩
def A5j{c:S}{kill:List Nat}{x y:AC}(hc:Ac e c=.bool true)(h:W T pr (.c x::k) (e.del kill) σ Q):W T pr (.c (.cond c kill x y)::k) e σ Q:=Avw hc (fun _=>h) (fun h=>by cases h)
def A5k{c:S}{kill:List Nat}{x y:AC}(hc:Ac e c=.bool false)(h:W T pr (.c y::k) (e.del kill) σ Q):W T pr (.c (.cond c kill x y)::k) e σ Q:=Avw hc (fun h=>by cases h) (fun _=>h)
def Fn(T:Nat->Option AF)(pr:Nat->Option (List V->Option V))(f:Nat)(vs:List V)(v:V):Prop:=∃ F,T f=some F/\F.thr=false/\F.spec=none/\∃ v0 σ0,Ev T pr (.fn f vs [] v0 σ0)/\Eg σ0 v0=some v
def Xl(T:Nat->Option AF)(pr:Nat->Option (List V->Option V))(f:Nat)(vs:List V)(v:V)(σ0:St):Prop:=∃ F,T f=some F/\F.thr=false/\F.spec=none/\Ev T pr (.fn f vs [] v σ0)
def Th(T:Nat->Option AF)(pr:Nat->Option (List V->Option V))(f:Nat)(vs:List V)(σ:St)(v:V)(σ':St):Prop:=∃ F,T f=some F/\F.thr=true/\F.spec=none/\Ev T pr (.fn f vs σ v σ')
def Bw(T:Nat->Option AF)(pr:Nat->Option (List V->Option V))(f:Nat)(vs:List V)(σ:St)(v:V)(σ':St):Prop:=∃ F,T f=some F/\F.spec=none/\Ev T pr (.fn f vs σ v σ')
def Amg(n:Nat)(σ:St)(v:V)(σ1:St):Prop:=Cd v=true/\Ej n [] v.refs=true/\∀ i ob,i<n->σ1[i]?=some ob->σ[i]?=some ob\/Ej n [] ob.refs=true
def Aq2{f:Nat}{vs:List V}{v:V}{F:AF}{σ':St}(hT:T f=some F)(ht:F.thr=true)(qc:F.spec=none)(hl:vs.length=F.pars)(h:W T pr [.c F.body] (C7 0 vs) σ fun e' σ1=>Ca e' σ1 F.res=some v/\Amg σ.length σ v σ1/\σ'=σ1.take σ.length):Th T pr f vs σ v σ':=by
 obtain⟨e',σ1,hE,hr,⟨h1,h2,h3⟩,rfl⟩:=h;exact⟨F,hT,ht,qc,.fn hT qc hl hE hr h1 h2 h3⟩
def A2m{f:Nat}{vs:List V}{v:V}{F:AF}{σ':St}(hT:T f=some F)(ht:F.thr=true)(qc:F.spec=none)(hl:vs.length=F.pars)(h:W T pr [.c F.body] (C7 0 vs) σ fun e' σ1=>∃ v0 js,Ca e' σ1 F.res=some v0/\Hj σ.length js v0 σ1=true/\v=v0.ren (ren σ.length js)/\σ'=(σ1.take σ.length++js.filterMap (σ1[·]?)).map (Ob.ren (ren σ.length js))):Th T pr f vs σ v σ':=by
 obtain⟨e',σ1,hE,v0,js,hr,qF,rfl,rfl⟩:=h;exact⟨F,hT,ht,qc,.fnL hT qc hl hE hr qF⟩
def Aq3{f:Nat}{vs:List V}{v:V}{F:AF}(hT:T f=some F)(ht:F.thr=false)(qc:F.spec=none)(hl:vs.length=F.pars)(h:W T pr [.c F.body] (C7 0 vs) [] fun e' σ'=>∃ v0,Ca e' σ' F.res=some v0/\Cd v0=true/\v0.refs=[]/\Eg [] v0=some v):Fn T pr f vs v:=by
 obtain⟨e',σ',hE,v0,hr,ho,hn,hb⟩:=h;have:=Ev.fn (T:=T) (pr:=pr) hT qc hl hE hr ho (by rw[hn];rfl) (fun i ob hi=>by grind);exact⟨F,hT,ht,qc,v0,_,this,hb⟩
def A2n{f:Nat}{vs:List V}{v:V}{F:AF}(hT:T f=some F)(ht:F.thr=false)(qc:F.spec=none)(hl:vs.length=F.pars)(h:W T pr [.c F.body] (C7 0 vs) [] fun e' σ1=>∃ v0 js,Ca e' σ1 F.res=some v0/\Hj 0 js v0 σ1=true/\Eg ((js.filterMap (σ1[·]?)).map (Ob.ren (ren 0 js))) (v0.ren (ren 0 js))=some v):Fn T pr f vs v:=by
 obtain⟨e',σ',hE,v0,js,hr,qF,hb⟩:=h;have:=Ev.fnL (T:=T) (pr:=pr) hT qc hl hE hr qF;exact⟨F,hT,ht,qc,_,_,this,by grind⟩
def Api{f:Nat}{vs:List V}{v:V}{F:AF}{σ':St}(hT:T f=some F)(qc:F.spec=none)(hl:vs.length=F.pars)(h:W T pr [.c F.body] (C7 0 vs) σ fun e' σ1=>∃ v0 js,Ca e' σ1 F.res=some v0/\Cd v0=true/\Iw σ1 js v0=some v/\Ej σ.length [] v.refs=true/\(∀ i ob,i<σ.length->(σ1.freeze js)[i]?=some ob->σ[i]?=some ob\/Ej σ.length [] ob.refs=true)/\σ'=(σ1.freeze js).take σ.length):Bw T pr f vs σ v σ':=by
 obtain⟨e',σ1,hE,v0,js,hr,h0,h1,h2,h3,rfl⟩:=h;exact⟨F,hT,qc,.fnS hT qc hl hE hr h0 h1 h2 h3⟩
def A2o{f:Nat}{vs:List V}{v:V}{F:AF}{σ':St}(hT:T f=some F)(ht:F.thr=true)(qc:F.spec=none)(hl:vs.length=F.pars)(h:W T pr [.c F.body] (C7 0 vs) σ fun e' σ1=>∃ v0 v1 js ks,Ca e' σ1 F.res=some v0/\Cd v0=true/\Iw σ1 js v0=some v1/\Hj σ.length ks v1 (σ1.freeze js)=true/\v=v1.ren (ren σ.length ks)/\σ'=((σ1.freeze js).take σ.length++ks.filterMap ((σ1.freeze js)[·]?)).map (Ob.ren (ren σ.length ks))):Th T pr f vs σ v σ':=by
 obtain⟨e',σ1,hE,v0,v1,js,ks,hr,h0,h1,h2,rfl,rfl⟩:=h;exact⟨F,hT,ht,qc,.fnZ hT qc hl hE hr h0 h1 h2⟩
def Apj{f:Nat}{vs:List V}{v:V}{F:AF}(hT:T f=some F)(ht:F.thr=false)(qc:F.spec=none)(hl:vs.length=F.pars)(h:W T pr [.c F.body] (C7 0 vs) [] fun e' σ1=>∃ v0 js,Ca e' σ1 F.res=some v0/\Cd v0=true/\Iw σ1 js v0=some v/\v.refs=[]/\Eg [] v=some v):Fn T pr f vs v:=by
 obtain⟨e',σ1,hE,v0,js,hr,h0,h1,h2,h3⟩:=h;have:=Ev.fnS (T:=T) (pr:=pr) hT qc hl hE hr h0 h1 (by rw[h2];rfl) (fun i ob hi=>by grind);exact⟨F,hT,ht,qc,v,_,this,by grind⟩
end
variable {T:Nat->Option AF} {pr:Nat->Option (List V->Option V)}
def S.rd:S->List Nat
 | .t n=>[n]
 | .k _=>[]
def S.rdO:Option S->List Nat
 | some s=>s.rd
 | none=>[]
def AO.rd:AO->List Nat
 | .mov x | .box _ x | .load _ _ x | .chk x | .un _ x | .cvi _ x | .fad _ x | .fld _ _ _ x | .ext _ x | .len x | .lens x=>x.rd
 | .pick c a b=>c.rd++(a.rd++b.rd)
 | .new _ _ | .mmk=>[]
 | .build _ ps=>ps.flatMap fun p=>p.2.2.rd
 | .rows _ _ ps | .rowf _ _ ps | .rowo _ _ _ ps=>ps.flatMap fun p=>p.2.rd
 | .mk _ _ _ x y | .mlk _ x y=>x.rd++y.rd
 | .mup x k v=>x.rd++(k.rd++v.rd)
 | .store _ x v=>x.rd++v.rd
 | .bin _ x y | .eq _ _ x y | .iad _ x y | .iar _ _ x y | .idx x y | .ida _ _ _ x y | .app _ _ x y | .apps _ x y | .mx x y | .mn x y=>x.rd++y.rd
 | .slc _ x lo hi m3=>x.rd++(S.rdO lo++(S.rdO hi++S.rdO m3))
 | .slcs x lo hi | .slca _ _ x lo hi=>x.rd++(S.rdO lo++S.rdO hi)
 | .call _ xs=>xs.flatMap S.rd
 | .callv x xs=>x.rd++xs.flatMap S.rd
def AI.rd(i:AI):List Nat:=i.op.rd++(match i.g with
 | some (t,_)=>[t]
 | none=>[])
def Agree(e e':Env)(l:List Nat):Prop:=∀ t∈l,e.get t=e'.get t
def Agree.l{e e':Env}{a b:List Nat}(h:Agree e e' (a++b)):Agree e e' a:=fun t ht=>h t (by simp[ht])
def Agree.r{e e':Env}{a b:List Nat}(h:Agree e e' (a++b)):Agree e e' b:=fun t ht=>h t (by simp[ht])
def Ck{e e':Env}{s:S}(h:Agree e e' s.rd):Ac e s=Ac e' s:=by
 cases s with
 | t n=>exact h n (by simp[S.rd])
 | k v=>rfl
def Ub{e e':Env}{s:Option S}(h:Agree e e' (S.rdO s)):s.map (Ac e)=s.map (Ac e'):=by
 cases s with
 | none=>rfl
 | some s=>simp only[I9];rw[Ck h]
def Tj{e e':Env}:∀ {xs:List S},Agree e e' (xs.flatMap S.rd)->xs.map (Ac e)=xs.map (Ac e')
 | [],_=>rfl
 | x::xs,h=>by
  rw[Abs]at h;rw[Bh,Bh,Ck h.l,Tj h.r]
def Apk{e e':Env}{op:AO}(h:Agree e e' op.rd)(σ:St):Af op e σ=Af op e' σ:=by
 cases op with
 | build z ps=>
  have:(ps.map fun p=>(p.1,p.2.1,Ac e p.2.2))=ps.map fun p=>(p.1,p.2.1,Ac e' p.2.2):=by
   simp only[AO.rd]at h
   induction ps with
   | nil=>rfl
   | cons p ps ih=>
    rw[Abs]at h;rw[Bh,Bh,Ck h.l,ih h.r]
  simp only[Af,this]
 | rows n z ps=>
  have:(ps.map fun p=>(p.1*z.length,z.length,Ac e p.2))=ps.map fun p=>(p.1*z.length,z.length,Ac e' p.2):=by
   simp only[AO.rd]at h
   induction ps with
   | nil=>rfl
   | cons p ps ih=>
    rw[Abs]at h;rw[Bh,Bh,Ck h.l,ih h.r]
  simp only[Af,this]
 | rowf n z ps=>
  have:(ps.map fun p=>(p.1*z.length,z.length,Ac e p.2))=ps.map fun p=>(p.1*z.length,z.length,Ac e' p.2):=by
   simp only[AO.rd]at h
   induction ps with
   | nil=>rfl
   | cons p ps ih=>
    rw[Abs]at h;rw[Bh,Bh,Ck h.l,ih h.r]
  simp only[Af,this]
 | rowo t n z ps=>
  have:(ps.map fun p=>(p.1*z.length,z.length,Ac e p.2))=ps.map fun p=>(p.1*z.length,z.length,Ac e' p.2):=by
   simp only[AO.rd]at h
   induction ps with
   | nil=>rfl
   | cons p ps ih=>
    rw[Abs]at h;rw[Bh,Bh,Ck h.l,ih h.r]
  simp only[Af,this]
 | call f xs=>rfl
 | callv x xs=>rfl
 | new t z=>rfl
 | mmk=>rfl
 | mup x k v=>simp only[Af,AO.rd]at h ⊢;rw[Ck h.l,Ck h.r.l,Ck h.r.r]
 | pick c a b=>simp only[Af,AO.rd]at h ⊢;rw[Ck h.l,Ck h.r.l,Ck h.r.r]
 | slc m x lo hi mx=>simp only[Af,AO.rd]at h ⊢;rw[Ck h.l,Ub h.r.l,Ub h.r.r.l,Ub h.r.r.r]
 | slcs x lo hi=>simp only[Af,AO.rd]at h ⊢;rw[Ck h.l,Ub h.r.l,Ub h.r.r]
 | slca l m x lo hi=>simp only[Af,AO.rd]at h ⊢;rw[Ck h.l,Ub h.r.l,Ub h.r.r]
 | mov x=>simp only[Af,AO.rd]at h ⊢;rw[Ck h]
 | box t x=>simp only[Af,AO.rd]at h ⊢;rw[Ck h]
 | load n one x=>simp only[Af,AO.rd]at h ⊢;rw[Ck h]
 | chk x=>simp only[Af,AO.rd]at h ⊢;rw[Ck h]
 | un o x=>simp only[Af,AO.rd]at h ⊢;rw[Ck h]
 | cvi k x=>simp only[Af,AO.rd]at h ⊢;rw[Ck h]
 | fad o x=>simp only[Af,AO.rd]at h ⊢;rw[Ck h]
 | fld o n b x=>simp only[Af,AO.rd]at h ⊢;rw[Ck h]
 | ext i x=>simp only[Af,AO.rd]at h ⊢;rw[Ck h]
 | len x=>simp only[Af,AO.rd]at h ⊢;rw[Ck h]
 | lens x=>simp only[Af,AO.rd]at h ⊢;rw[Ck h]
 | store n x v=>simp only[Af,AO.rd]at h ⊢;rw[Ck h.l,Ck h.r]
 | bin o x y=>simp only[Af,AO.rd]at h ⊢;rw[Ck h.l,Ck h.r]
 | eq k b x y=>simp only[Af,AO.rd]at h ⊢;rw[Ck h.l,Ck h.r]
 | iad m x y=>simp only[Af,AO.rd]at h ⊢;rw[Ck h.l,Ck h.r]
 | iar l m x y=>simp only[Af,AO.rd]at h ⊢;rw[Ck h.l,Ck h.r]
 | ida l m one x y=>simp only[Af,AO.rd]at h ⊢;rw[Ck h.l,Ck h.r]
 | idx x y=>simp only[Af,AO.rd]at h ⊢;rw[Ck h.l,Ck h.r]
 | app b m x y=>simp only[Af,AO.rd]at h ⊢;rw[Ck h.l,Ck h.r]
 | apps t x y=>simp only[Af,AO.rd]at h ⊢;rw[Ck h.l,Ck h.r]
 | mx x y=>simp only[Af,AO.rd]at h ⊢;rw[Ck h.l,Ck h.r]
 | mn x y=>simp only[Af,AO.rd]at h ⊢;rw[Ck h.l,Ck h.r]
 | mk t b z x y=>simp only[Af,AO.rd]at h ⊢;rw[Ck h.l,Ck h.r]
 | mlk z x y=>simp only[Af,AO.rd]at h ⊢;rw[Ck h.l,Ck h.r]
def Gm(T:Nat->Option AF)(pr:Nat->Option (List V->Option V)):AO->Nat
 | .load _ _ _=>1
 | .new _ _ | .box _ _ | .store _ _ _ | .app _ _ _ _ | .apps _ _ _ | .rowf _ _ _ | .rowo _ _ _ _ | .mk _ _ _ _ _ | .mmk | .mlk _ _ _ | .mup _ _ _ | .callv _ _=>2
 | .call f _=>match pr f with
  | some _=>0
  | none=>match T f with
   | some F=>if F.thr then 2 else 0
   | none=>2
 | _=>0
def Yp{σ σ1:St}{v:V}{x:Option V}(h:x.map (fun v=>(v,σ))=some (v,σ1)):σ1=σ/\x=some v:=by
 cases x with
 | none=>simp at h
 | some y=>grind
theorem Ab8{op:AO}(h0:Gm T pr op=0){e:Env}{σ σ1:St}{v:V}(h:Af op e σ=some (v,σ1)):σ1=σ/\∀ σ',Af op e σ'=some (v,σ'):=by
 cases op with
 | new | box | store | app | apps | load | rowf | rowo | mk | mmk | mlk | mup | callv=>simp[Gm]at h0
 | call=>simp[Af]at h
 | mov x=>simp only[Af]at h ⊢;cases h;exact⟨rfl,fun _=>rfl⟩
 | pick c a b=>
  simp only[Af]at h ⊢
  split at h
  .cases h;exact⟨rfl,fun _=>rfl⟩
  .cases h
 | build z ps=>
  simp only[Af]at h ⊢
  cases hf:I1 z (ps.map fun p=>(p.1,p.2.1,Ac e p.2.2)) with
  | none=>rw[hf]at h;simp at h
  | some cs=>rw[hf]at h;simp at h;exact⟨h.2.symm,fun σ'=>by simp[h.1]⟩
 | rows n z ps=>
  simp only[Af]at h ⊢
  cases hf:I1 (List.replicate n z).flatten (ps.map fun p=>(p.1*z.length,z.length,Ac e p.2)) with
  | none=>rw[hf]at h;simp at h
  | some cs=>
   rw[hf]at h;simp only[C5]at h ⊢
   split at h
   .rename_i hs;cases h;exact⟨rfl,fun σ'=>by rw[if_pos hs]⟩
   .cases h
 | slca l m x lo hi=>
  simp only[Af]at h ⊢
  split at h
  .simp only[E3]at h;obtain⟨p,hp,q,hq,h⟩:=h
   split at h
   .rename_i qD;cases h;exact⟨rfl,fun σ'=>by simp[hp,hq,qD]⟩
   .cases h
  .cases h
 | chk x=>
  simp only[Af]at h ⊢
  split at h
  .cases h;exact⟨rfl,fun _=>rfl⟩
  .cases h;exact⟨rfl,fun _=>rfl⟩
  .cases h
 | bin o x y=>simp only[Af]at h ⊢;obtain⟨h1,h2⟩:=Yp h;exact⟨h1,fun σ'=>by rw[h2];rfl⟩
 | eq k b x y=>
  simp only[Af]at h ⊢
  cases hf:Nm k (Ac e x) (Ac e y) with
  | none=>rw[hf]at h;simp at h
  | some z=>rw[hf]at h;simp at h;exact⟨h.2.symm,fun σ'=>by simp[h.1]⟩
 | un o x=>simp only[Af]at h ⊢;obtain⟨h1,h2⟩:=Yp h;exact⟨h1,fun σ'=>by rw[h2];rfl⟩
 | cvi k x=>
  simp only[Af]at h ⊢
  split at h
  .cases h;exact⟨rfl,fun _=>rfl⟩
  .cases h
 | slc m x lo hi m3=>simp only[Af]at h ⊢;obtain⟨h1,h2⟩:=Yp h;exact⟨h1,fun σ'=>by rw[h2];rfl⟩
 | slcs x lo hi=>simp only[Af]at h ⊢;obtain⟨h1,h2⟩:=Yp h;exact⟨h1,fun σ'=>by rw[h2];rfl⟩
 | fad o x=>
  simp only[Af]at h ⊢
  split at h
  .cases h;exact⟨rfl,fun _=>rfl⟩
  .cases h;exact⟨rfl,fun _=>rfl⟩
  .cases h
 | fld o n b x=>
  simp only[Af]at h ⊢
  split at h
  .split at h
   .rename_i qD;obtain⟨h1,h2⟩:=Yp h;exact⟨h1,fun σ'=>by simp only[if_pos qD,h2];rfl⟩
   .cases h
  .cases h
 | iad m x i=>
  simp only[Af]at h ⊢
  split at h
  .rename_i t xs e1
   cases hf:Js xs (Ac e i) with
   | none=>rw[hf]at h;simp at h
   | some r=>
    rw[hf]at h;simp only[C5]at h
    split at h
    .rename_i hr;cases h;exact⟨rfl,fun σ'=>by simp[hf,hr]⟩
    .cases h
  .split at h
   .split at h
    .rename_i hc;cases h;exact⟨rfl,fun σ'=>by simp only[if_pos hc]⟩
    .cases h
   .cases h
  .cases h
 | ida l m one x i=>
  simp only[Af]at h ⊢
  split at h
  .split at h
   .rename_i hn
    split at h
    .split at h
     .rename_i qD;simp only[Ci]at h;obtain⟨v',h,h2⟩:=h;cases h2;exact⟨rfl,fun τ=>by simp only[if_pos hn,if_pos qD,h,I9]⟩
     .cases h
    .cases h
   .cases h
  .cases h
 | iar l m x i=>
  simp only[Af]at h ⊢
  split at h
  .split at h
   .rename_i hn
    split at h
    .cases h;exact⟨rfl,fun _=>by simp only[if_pos hn]⟩
    .cases h;exact⟨rfl,fun _=>by simp only[if_pos hn]⟩
    .cases h
   .cases h
  .cases h
 | idx x i=>
  simp only[Af]at h ⊢
  split at h
  .rename_i l e1
   cases hf:Js l (Ac e i) with
   | none=>rw[hf]at h;simp at h
   | some r=>rw[hf]at h;simp at h;exact⟨h.2.symm,fun σ'=>by simp[hf,h.1]⟩
  .cases h
 | ext i x=>
  simp only[Af]at h ⊢
  split at h
  .rename_i vs e1
   cases hf:vs[i]? with
   | none=>rw[hf]at h;simp at h
   | some r=>rw[hf]at h;simp at h;exact⟨h.2.symm,fun σ'=>by simp[hf,h.1]⟩
  .cases h
 | len x=>
  simp only[Af]at h ⊢
  split at h
  .cases h;exact⟨rfl,fun _=>rfl⟩
  .cases h;exact⟨rfl,fun _=>rfl⟩
  .cases h;exact⟨rfl,fun _=>rfl⟩
  .cases h
 | lens x=>
  simp only[Af]at h ⊢
  split at h
  .cases h;exact⟨rfl,fun _=>rfl⟩
  .cases h
 | mx x y=>
  simp only[Af]at h ⊢
  split at h
  .split at h
   .rename_i hk;cases h;exact⟨rfl,fun _=>by simp only[if_pos hk]⟩
   .cases h
  .cases h
 | mn x y=>
  simp only[Af]at h ⊢
  split at h
  .split at h
   .rename_i hk;cases h;exact⟨rfl,fun _=>by simp only[if_pos hk]⟩
   .cases h
  .cases h
theorem Aoh(σ σ':St):∀ (d:Nat) (v:V),Fg σ [] d v=Fg σ' [] d v
 | 0,_=>rfl
 | d+1,v=>by
  simp[Fg]
def A0m(σ σ':St)(v:V):Gy σ [] v=Gy σ' [] v:=by
 unfold Gy
 split
 .rfl
 .rw[show Fg σ [] 9=Fg σ' [] 9 from funext (Aoh σ σ' 9)]
 grind[Aoh]
def Ac6{σ:St}{args:List V}(h:Ah args=[]):Lv σ args=[]:=by
 grind[Lv,Fy]
theorem Ac7{σ:St}{args:List V}(h:Ah args=[])(σ':St):Dt σ' args=Dt σ args:=by
 unfold Dt;rw[Ac6 h,Ac6 h,show Gy σ' []=Gy σ [] from funext (A0m σ' σ)]
theorem Vy{σ:St}{args:List V}(h:Ah args=[])(v:V):after σ args v=σ:=by
 unfold after;rw[Ac6 h]
 split<;>rfl
inductive Stp (T:Nat->Option AF) (pr:Nat->Option (List V->Option V)):AI->Env->St->V->St->Prop
 | off {i:AI} {e:Env} {σ:St}:Cv e i=some false->Stp T pr i e σ .skp σ
 | val {i:AI} {e:Env} {σ σ1:St} {v:V}:Cv e i=some true->Af i.op e σ=some (v,σ1)->Stp T pr i e σ v σ1
 | prim {d:Option Nat} {g:Option (Nat × Bool)} {f:Nat} {xs:List S} {e:Env} {σ:St} {s:List V->Option V} {vs:List V} {v:V}:Cv e ⟨d,.call f xs,g⟩=some true->pr f=some s->Ah (xs.map (Ac e))=[] ->
   Dt [] (xs.map (Ac e))=some vs->s vs=some v->Stp T pr ⟨d,.call f xs,g⟩ e σ v σ
 | pure {d:Option Nat} {g:Option (Nat × Bool)} {f:Nat} {xs:List S} {e:Env} {σ:St} {vs:List V} {v:V}:Cv e ⟨d,.call f xs,g⟩=some true->Ah (xs.map (Ac e))=[] ->
   Dt [] (xs.map (Ac e))=some vs->Fn T pr f vs v->Stp T pr ⟨d,.call f xs,g⟩ e σ v σ
 | thr {d:Option Nat} {g:Option (Nat × Bool)} {f:Nat} {xs:List S} {e:Env} {σ σ1:St} {F:AF} {v:V}:Cv e ⟨d,.call f xs,g⟩=some true->T f=some F->F.thr=true->F.spec=none->pr f=none ->
   Ev T pr (.fn f (xs.map (Ac e)) σ v σ1)->Stp T pr ⟨d,.call f xs,g⟩ e σ v σ1
 | spec {d:Option Nat} {g:Option (Nat × Bool)} {f:Nat} {xs:List S} {e:Env} {σ σ1:St} {F:AF} {s:List V->St->Option (V × St)} {v:V}:Cv e ⟨d,.call f xs,g⟩=some true->T f=some F->F.thr=true->F.spec=some s->pr f=none ->
   s (xs.map (Ac e)) σ=some (v,σ1)->Stp T pr ⟨d,.call f xs,g⟩ e σ v σ1
 | vprim {d:Option Nat} {g:Option (Nat × Bool)} {f:Nat} {x:S} {xs:List S} {args:List V} {e:Env} {σ:St} {s:List V->Option V} {vs:List V} {v:V}:Cv e ⟨d,.callv x xs,g⟩=some true->Cj e (.callv x xs)=some (f,args)->pr f=some s ->
   Dt σ args=some vs->s vs=some v->Stp T pr ⟨d,.callv x xs,g⟩ e σ v (after σ args v)
 | vpure {d:Option Nat} {g:Option (Nat × Bool)} {f:Nat} {x:S} {xs:List S} {args:List V} {e:Env} {σ:St} {vs:List V} {v:V}:Cv e ⟨d,.callv x xs,g⟩=some true->Cj e (.callv x xs)=some (f,args) ->
   Dt σ args=some vs->Fn T pr f vs v->Stp T pr ⟨d,.callv x xs,g⟩ e σ v (after σ args v)
 | vthr {d:Option Nat} {g:Option (Nat × Bool)} {f:Nat} {x:S} {xs:List S} {args:List V} {e:Env} {σ σ1:St} {F:AF} {v:V}:Cv e ⟨d,.callv x xs,g⟩=some true->Cj e (.callv x xs)=some (f,args)->T f=some F->F.thr=true->F.spec=none ->
   Ev T pr (.fn f args σ v σ1)->Stp T pr ⟨d,.callv x xs,g⟩ e σ v σ1
def Stp.ev{i:AI}{l:List AI}{e e':Env}{σ σ1 σ':St}{v:V}(h:Stp T pr i e σ v σ1)(g:Ev T pr (.ops l (e.putO i.dst v) σ1 e' σ')):Ev T pr (.ops (i::l) e σ e' σ'):=by
 cases h with
 | off hw=>exact .opsSkip hw g
 | val hw hv=>exact .opsVal hw hv g
 | prim hw hp hn hx hs=>exact .opsPrim hw rfl hp ((Ac7 hn _).trans hx) hs (by rw[Vy hn];exact g)
 | pure hw hn hx hf=>
  obtain⟨F,h1,h2,qc,v0,σ0,h3,h4⟩:=hf;exact .opsPure hw rfl h1 h2 qc ((Ac7 hn _).trans hx) h3 h4 (by rw[Vy hn];exact g)
 | thr hw h1 h2 qc _ h3=>exact .opsThr hw rfl h1 h2 qc h3 g
 | spec hw h1 h2 qc _ h3=>exact .opsSpec hw rfl h1 h2 qc h3 g
 | vprim hw hc hp hx hs=>exact .opsPrim hw hc hp hx hs g
 | vpure hw hc hx hf=>
  obtain⟨F,h1,h2,qc,v0,σ0,h3,h4⟩:=hf;exact .opsPure hw hc h1 h2 qc hx h3 h4 g
 | vthr hw hc h1 h2 qc h3=>exact .opsThr hw hc h1 h2 qc h3 g
def Anu{e e':Env}{i:AI}(h:Agree e e' i.rd):Cv e i=Cv e' i:=by
 unfold Cv
 cases hg:i.g with
 | none=>rfl
 | some p=>
  obtain⟨t,b⟩:=p;have:=h t (by grind[AI.rd])
  grind
def Ab3{e e':Env}{x:S}{xs:List S}(h:Agree e e' (AO.callv x xs).rd):Cj e (.callv x xs)=Cj e' (.callv x xs):=by
 have h':Agree e e' (x.rd++xs.flatMap S.rd):=h;simp only[Cj];rw[Ck h'.l,Tj h'.r]
def Stp.move{i:AI}{e e':Env}{σ σ1:St}{v:V}(h:Stp T pr i e σ v σ1)(ha:Agree e e' i.rd):
  Stp T pr i e' σ v σ1/\(Gm T pr i.op≠2->σ1=σ)/\(Gm T pr i.op=0->∀ σ',Stp T pr i e' σ' v σ') /\
  (∀ n one x,i.op=.load n one x->∀ σ',H3 σ' n one (Ac e x)=H3 σ n one (Ac e x)->Stp T pr i e' σ' v σ'):=by
 have hw:=Anu ha
 cases h with
 | off h=>exact⟨.off (hw ▸ h),fun _=>rfl,fun _ σ'=>.off (hw ▸ h),fun _ _ _ _ σ' _=>.off (hw ▸ h)⟩
 | val h hv=>
  have he:=Apk (op:=i.op) ha.l;refine⟨.val (hw ▸ h) (he σ ▸ hv),fun hc=>?_,fun hc σ'=>?_,fun n one x qk σ' hl=>?_⟩
  .by_cases h0:Gm T pr i.op=0
   .grind[Ab8]
   .cases qk:i.op with
    | load n one x=>
     grind[Af,Option.map_eq_some_iff]
    | _=>grind[Gm]
  .exact .val (hw ▸ h) (he σ' ▸ (Ab8 hc hv).2 σ')
  .refine .val (hw ▸ h) (he σ' ▸ ?_);rw[qk]at hv ⊢;simp only[Af]at hv ⊢;rw[hl]
   cases qF:H3 σ n one (Ac e x) with
   | none=>grind
   | some y=>grind
 | prim h hp hn hx hs=>
  have hm:=Tj (xs:=_) (show Agree e e' _ from ha.l);rw[hm]at hx hn;exact⟨.prim (hw ▸ h) hp hn hx hs,fun _=>rfl,fun _ σ'=>.prim (hw ▸ h) hp hn hx hs,fun _ _ _ qk=>by cases qk⟩
 | pure h hn hx hf=>
  have hm:=Tj (xs:=_) (show Agree e e' _ from ha.l);rw[hm]at hx hn;exact⟨.pure (hw ▸ h) hn hx hf,fun _=>rfl,fun _ σ'=>.pure (hw ▸ h) hn hx hf,fun _ _ _ qk=>by cases qk⟩
 | spec h h1 h2 qc hp h3=>
  have hm:=Tj (xs:=_) (show Agree e e' _ from ha.l);rw[hm]at h3;refine⟨.spec (hw ▸ h) h1 h2 qc hp h3,fun hc=>?_,fun hc=>?_,fun _ _ _ qk=>by cases qk⟩
  .grind[Gm]
  grind[Gm]
 | thr h h1 h2 qc hp h3=>
  have hm:=Tj (xs:=_) (show Agree e e' _ from ha.l);rw[hm]at h3;refine⟨.thr (hw ▸ h) h1 h2 qc hp h3,fun hc=>?_,fun hc=>?_,fun _ _ _ qk=>by cases qk⟩
  .grind[Gm]
  grind[Gm]
 | vprim h hc hp hx hs=>exact⟨.vprim (hw ▸ h) (by rw[<-Ab3 ha.l];exact hc) hp hx hs,fun hc=>by grind[Gm],fun hc=>by grind[Gm],fun _ _ _ qk=>by cases qk⟩
 | vpure h hc hx hf=>exact⟨.vpure (hw ▸ h) (by rw[<-Ab3 ha.l];exact hc) hx hf,fun hc=>by grind[Gm],fun hc=>by grind[Gm],fun _ _ _ qk=>by cases qk⟩
 | vthr h hc h1 h2 qc h3=>exact⟨.vthr (hw ▸ h) (by rw[<-Ab3 ha.l];exact hc) h1 h2 qc h3,fun hc=>by grind[Gm],fun hc=>by grind[Gm],fun _ _ _ qk=>by cases qk⟩
variable {T:Nat->Option AF} {pr:Nat->Option (List V->Option V)}
def E0(qa:List (List Nat)):Nat->Nat->Nat->Bool
 | 0,_,_=>false
 | f+1,j,i=>(qa.getD j []).any fun d=>d==i||E0 qa f d i
def Bh1(T:Nat->Option AF)(pr:Nat->Option (List V->Option V))(x y:AI):Bool:=
 (match x.dst with
  | some d=>!y.rd.elem d&&!(y.dst==some d)
  | none=>true)&&((match y.dst with
  | some d=>!x.rd.elem d
  | none=>true)&&!(Gm T pr x.op==2&&Gm T pr y.op==2))
def A9h(T:Nat->Option AF)(pr:Nat->Option (List V->Option V))(qa:List (List Nat))(ops:List AI):Bool:=
 qa.length==ops.length&&(List.range ops.length).all fun j=>((qa.getD j []).all fun d=>decide (d<j))&&(List.range j).all fun i=>E0 qa ops.length j i||(match ops[i]?,ops[j]? with
  | some x,some y=>Bh1 T pr x y
  | _,_=>false)
variable {T:Nat->Option AF} {pr:Nat->Option (List V->Option V)}
def Apl:∀ (n:Nat) (l:List Nat),l.Nodup->(∀ x∈l,x<n)->l.length<=n
 | 0,[],_,_=>Am _
 | 0,x::_,_,h=>absurd (h x AE) AA
 | n+1,l,hn,h=>by
  have h1:=Apl n (l.erase n) (hn.erase n) (fun x hx=>by
   grind)
  grind
def Acf:∀ (n:Nat) (l:List Nat),(∀ j,j<n->j∈l)->n<=l.length
 | 0,_,_=>As _
 | n+1,l,h=>by
  have h1:=Acf n (l.erase n) (fun j hj=>(List.mem_erase_of_ne AA).2 (h j AA))
  grind
def Avx{n:Nat}{l:List Nat}(hn:l.Nodup)(h:∀ x∈l,x<n)(hl:l.length=n){j:Nat}(hj:j<n):j∈l:=by
 rcases Classical.em (j∈l) with h' | h'
 .exact h'
 .have:=Apl n (j::l) (Ag3.2 ⟨h',hn⟩) (fun x hx=>by
   grind)
  grind
def Oj(qa:List (List Nat)):Nat->Nat->List Nat->List Nat
 | 0,_,_=>[]
 | fuel+1,t,qe=>
  match ((List.range qa.length).filter (Mm qa qe))[t % ((List.range qa.length).filter (Mm qa qe)).length]? with
  | some i=>i::Oj qa fuel (t / ((List.range qa.length).filter (Mm qa qe)).length) (i::qe)
  | none=>[]
theorem Aio(qa:List (List Nat)):∀ (fuel t:Nat) (qe:List Nat),Pq qa fuel t qe=qe.reverse++Oj qa fuel t qe
 | 0,_,qe=>by simp[Pq,Oj]
 | fuel+1,t,qe=>by
  unfold Pq Oj;simp only
  split
  .rename_i i hi;rw[Aio qa fuel _ (i::qe),hi];simp
  grind
section
variable {qa:List (List Nat)} {ops:List AI} {e e1:Env} {σ σ1:St} {jj:Nat->Env} {st:Nat->St} {val:Nat->V}
def DC(qa:List (List Nat))(qe:List Nat):Prop:=∀ j∈qe,∀ d∈qa.getD j [],d∈qe
theorem Ry{qe:List Nat}(h:DC qa qe):∀ (f j i:Nat),E0 qa f j i=true->j∈qe->i∈qe
 | 0,_,_,hb,_=>by grind[E0]
 | f+1,j,i,hb,hj=>by
  simp only[E0,Pa,Nx,beq_iff_eq]at hb;obtain⟨d,hd,hb⟩:=hb;have qL:=h j hj d hd;rcases hb with rfl | hb
  .exact qL
  .exact Ry h f d i hb qL
theorem Aco{qe:List Nat}(h:DC qa qe){f j i:Nat}(hr:∀ d∈qa.getD j [],d∈qe)(hb:E0 qa f j i=true):i∈qe:=by
 cases f with
 | zero=>grind[E0]
 | succ f=>
  simp only[E0,Pa,Nx,beq_iff_eq]at hb;obtain⟨d,hd,hb⟩:=hb;rcases hb with rfl | hb
  .grind
  grind[Ry]
def On(ops:List AI)(j:Nat):Option Nat:=(ops[j]?).bind (·.dst)
def EnvOK(ops:List AI)(val:Nat->V)(e:Env)(M:Nat->Prop)(E:Env):Prop:=
 ∀ t,(∃ j,M j/\On ops j=some t/\(∀ j',M j'->On ops j'=some t->j'<=j)/\E.get t=val j)\/((∀ j,M j->On ops j≠some t)/\E.get t=e.get t)
def EnvOK.put{M:Nat->Prop}{E:Env}{i:Nat}{x:AI}(h:EnvOK ops val e M E)(hx:ops[i]?=some x)(qq:∀ j t,M j->x.dst=some t->On ops j=some t->j<i):EnvOK ops val e (fun j=>j=i\/M j) (E.putO x.dst (val i)):=by
 intro t;have jk:On ops i=x.dst:=by simp[On,hx]
 cases hd:x.dst with
 | none=>
  simp only[Env.putO];rcases h t with⟨j,h1,h2,h3,h4⟩ | ⟨h1,h2⟩
  .grind
  grind
 | some d=>
  simp only[Env.putO];rw[Env.get_put];by_cases qW:d=t
  .grind
  .rw[if_neg qW];rcases h t with⟨j,h1,h2,h3,h4⟩ | ⟨h1,h2⟩
   .grind
   grind
def EnvOK.same{M M':Nat->Prop}{E E':Env}(h:EnvOK ops val e M E)(h':EnvOK ops val e M' E'){t:Nat}(ht:∀ j,On ops j=some t->(M j↔M' j)):E.get t=E'.get t:=by
 rcases h t with⟨j,h1,h2,h3,h4⟩ | ⟨h1,h2⟩
 .rcases h' t with⟨k,k1,k2,k3,k4⟩ | ⟨k1,k2⟩
  .grind
  grind
 .rcases h' t with⟨k,k1,k2,k3,k4⟩ | ⟨k1,k2⟩
  .grind
  grind
def EnvOK.iff{M M':Nat->Prop}{E:Env}(h:EnvOK ops val e M E)(hm:∀ j,M j↔M' j):EnvOK ops val e M' E:=by
 have:M=M':=funext fun j=>propext (hm j)
 grind
end
variable {T:Nat->Option AF} {pr:Nat->Option (List V->Option V)}
def rwB(T:Nat->Option AF)(pr:Nat->Option (List V->Option V))(x y:AI):Bool:=!((Gm T pr x.op==1&&Gm T pr y.op==2)||(Gm T pr x.op==2&&Gm T pr y.op==1))
def Bh2(T:Nat->Option AF)(pr:Nat->Option (List V->Option V))(qa:List (List Nat))(ops:List AI):Bool:=
 A9h T pr qa ops&&(List.range ops.length).all fun j=>(List.range j).all fun i=>E0 qa ops.length j i||(match ops[i]?,ops[j]? with
  | some x,some y=>rwB T pr x y
  | _,_=>false)
section
variable {Q:Env->St->Prop} {e:Env} {σ:St}
end
variable {T:Nat->Option AF} {pr:Nat->Option (List V->Option V)}
abbrev Lw:=List It->Env->St->Option (Env × St)
abbrev Q5:=Nat->List V->St->Option (V × St)
def Ayt(F:AF)(n:Nat)(p:Env × St):Option (V × St):=(Ca p.1 p.2 F.res).bind fun v=>leave n v p.2
def Lm(rc:Lw)(F:AF)(vs:List V)(σ:St):Option (V × St):=
 if vs.length=F.pars then(rc [.c F.body] (C7 0 vs) σ).bind (Ayt F σ.length) else none
def Aaj(rc:Lw)(F:AF)(args:List V)(σ:St):Option (V × St):=
 (Dt σ args).bind fun ws=>(Lm rc F ws []).bind fun p=>(Eg p.2 p.1).map fun v=>(v,after σ args v)
def Oo(T:Nat->Option AF)(pr:Nat->Option (List V->Option V))(rc:Lw)(qb:Bool):Q5:=fun f args σ=>
 match pr f with
 | some s=>if qb&&!(Ah args).isEmpty then none else(Dt σ args).bind fun ws=>(s ws).map fun v=>(v,after σ args v)
 | none=>match T f with
  | none=>none
  | some F=>match F.thr,F.spec with
   | true,some s=>s args σ
   | true,none=>Lm rc F args σ
   | false,none=>if qb&&!(Ah args).isEmpty then none else Aaj rc F args σ
   | false,some _=>none
def Atn:AO->Bool
 | .callv _ _=>true
 | _=>false
def Zz:AO->Bool
 | .call _ _ | .callv _ _=>true
 | _=>false
def Vb(rf:Bool->Q5)(qb:Bool)(op:AO)(e:Env)(σ:St):Option (V × St):=
 if Zz op then(if qb&&Atn op then none else(Cj e op).bind fun p=>rf qb p.1 p.2 σ) else Af op e σ
def S7(rf:Bool->Q5)(qb:Bool):List AI->Env->St->Option (Env × St)
 | [],e,σ=>some (e,σ)
 | i::l,e,σ=>match Cv e i with
  | some true=>(Vb rf qb i.op e σ).bind fun p=>S7 rf qb l (e.putO i.dst p.1) p.2
  | some false=>S7 rf qb l (e.putO i.dst .skp) σ
  | none=>none
def Axr:V->Option Bool
 | .bool b=>some b
 | _=>none
/-! more steps give no other result -/
def LeC(a b:Lw):Prop:=∀ k e σ r,a k e σ=some r->b k e σ=some r
def LeF(a b:Bool->Q5):Prop:=∀ s f vs σ r,a s f vs σ=some r->b s f vs σ=some r
def LeC.body{a b:Lw}(h:LeC a b){F:AF}{vs:List V}{σ:St}{r:V × St}(hr:Lm a F vs σ=some r):Lm b F vs σ=some r:=by
 unfold Lm at hr ⊢
 split at hr
 .rename_i hl;rw[if_pos hl];obtain⟨p,hp,hr⟩:=E3.1 hr;rw[h _ _ _ _ hp];exact hr
 grind
def LeC.pure{a b:Lw}(h:LeC a b){F:AF}{vs:List V}{σ:St}{r:V × St}(hr:Aaj a F vs σ=some r):Aaj b F vs σ=some r:=by
 unfold Aaj at hr ⊢;obtain⟨ws,hw,hr⟩:=E3.1 hr;obtain⟨p,hp,hr⟩:=E3.1 hr;rw[hw,C5,h.body hp];exact hr
def LeC.call{a b:Lw}(h:LeC a b):LeF (Oo T pr a) (Oo T pr b):=by
 intro s f vs σ r hr;unfold Oo at hr ⊢
 split at hr
 .exact hr
 .split at hr
  .cases hr
  .split at hr
   .exact hr
   .exact h.body hr
   .split at hr
    .cases hr
    .rename_i hs;rw[if_neg hs];exact h.pure hr
   omega
def LeF.op{a b:Bool->Q5}(h:LeF a b){s:Bool}{op:AO}{e:Env}{σ:St}{r:V × St}(hr:Vb a s op e σ=some r):Vb b s op e σ=some r:=by
 unfold Vb at hr ⊢
 split at hr
 .rename_i hc;rw[if_pos hc]
  split at hr
  .cases hr
  .rename_i hs;rw[if_neg hs];obtain⟨p,hp,hr⟩:=E3.1 hr;rw[hp,C5];exact h _ _ _ _ _ hr
 grind
def LeF.ops{a b:Bool->Q5}(h:LeF a b){s:Bool}:∀ {l:List AI} {e:Env} {σ:St} {r:Env × St},S7 a s l e σ=some r->S7 b s l e σ=some r
 | [],_,_,_,hr=>hr
 | i::l,e,σ,r,hr=>by
  unfold S7 at hr ⊢
  split at hr
  .obtain⟨p,hp,hr⟩:=E3.1 hr;rw[h.op hp];exact h.ops hr
  .exact h.ops hr
  omega
/-! what the function gives comes of the code -/
def Uu(T:Nat->Option AF)(pr:Nat->Option (List V->Option V)):AC->Bool
 | .drw _ qa ops=>Bh2 T pr qa ops
 | .seq a b=>Uu T pr a&&Uu T pr b
 | .cond _ _ a b=>Uu T pr a&&Uu T pr b
 | .blk _ c=>Uu T pr c
 | .loop _ c=>Uu T pr c
 | _=>true
section
variable (qQ:∀ f F,T f=some F->F.spec=none->Uu T pr F.body=true)
def A5l{n:Nat}{v v':V}{σ1 σ':St}(h:leave n v σ1=some (v',σ')):(Cd v=true/\Ej n [] v.refs=true/\(∀ i ob,i<n->σ1[i]?=some ob->Ej n [] ob.refs=true)/\v'=v/\σ'=σ1.take n)\/∃ js,Hj n js v σ1=true/\v'=v.ren (ren n js)/\σ'=(σ1.take n++js.filterMap (σ1[·]?)).map (Ob.ren (ren n js)):=by
 unfold leave at h
 split at h
 .rename_i hn;cases h;unfold Ao6 at hn;simp only[Al,Cc]at hn;exact .inl ⟨hn.1,hn.2.1,fun i ob hi ho=>hn.2.2 ob (Hg (by rw[Vh,if_pos hi];exact ho)),rfl,rfl⟩
 grind
inductive CallR (T:Nat->Option AF) (pr:Nat->Option (List V->Option V)) (qb:Bool) (f:Nat) (args:List V) (σ:St):V->St->Prop
 | prim {s:List V->Option V} {ws:List V} {v:V}:pr f=some s->(qb=true->Ah args=[])->Dt σ args=some ws->s ws=some v->CallR T pr qb f args σ v (after σ args v)
 | pure {ws:List V} {v:V}:(qb=true->Ah args=[])->Dt σ args=some ws->Fn T pr f ws v->CallR T pr qb f args σ v (after σ args v)
 | thr {F:AF} {v:V} {σ1:St}:pr f=none->T f=some F->F.thr=true->F.spec=none->Ev T pr (.fn f args σ v σ1)->CallR T pr qb f args σ v σ1
 | spec {F:AF} {s:List V->St->Option (V × St)} {v:V} {σ1:St}:pr f=none->T f=some F->F.thr=true->F.spec=some s->s args σ=some (v,σ1)->CallR T pr qb f args σ v σ1
def Ato{rf:Bool->Q5}{s:Bool}{op:AO}{e:Env}{σ:St}{r:V × St}(h:Vb rf s op e σ=some r):(Zz op=false/\Af op e σ=some r)\/∃ f args,Cj e op=some (f,args)/\rf s f args σ=some r/\(s=true->∃ xs,op=.call f xs/\args=xs.map (Ac e)):=by
 unfold Vb at h
 split at h
 .rename_i hc
  split at h
  .cases h
  .rename_i hs;obtain⟨⟨f,args⟩,hp,h⟩:=E3.1 h;refine .inr ⟨f,args,hp,h,fun qQ=>?_⟩;subst qQ
   cases op with
   | call f' xs=>
    simp only[Cj]at hp
    grind
   | callv x xs=>grind[Atn]
   | _=>grind[Zz]
 grind
end
