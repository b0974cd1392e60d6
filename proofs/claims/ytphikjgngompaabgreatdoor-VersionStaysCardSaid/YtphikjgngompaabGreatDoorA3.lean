/- THE PLAIN MACHINE, joined texts: Kr Kt Ks Ku Kv Kw Kx. -/
import Derived.Test.YtphikjgngompaabGreatDoorA2
import Derived.Scope
set_option linter.all false
/- THE PLAIN MACHINE IS RIGHT: the theorem. -/
namespace Go.Proofs.YtphikjgngompaabGreatDoor.KM
open Go Go.RowKit
variable {P:Program} {G:List (Nat × List V)} {T:Nat->Option AF} {pr:Nat->Option (List V->Option V)}
def As1{n:Nat}{ops:Array Oper}:∀ (qi:List AI) (os:List Oper) (k:Nat),Mg P G n ops qi os=true->ops.toList.drop k=os->ML P G n ops qi (List.range' k os.length)
 | [],[],_,_,_=>trivial
 | i::qi,o::os,k,h,hd=>by
  simp only[Mg,Ai]at h
  have hk:ops[k]?=some o:=by
   have:(ops.toList.drop k)[0]?=some o:=by rw[hd];rfl
   simpa using this
  refine⟨⟨o,hk,h.1⟩,As1 qi os (k+1) h.2 ?_⟩;rw[<-Zi,hd];rfl
 | [],_::_,_,h,_=>by grind[Mg]
 | _::_,[],_,h,_=>by grind[Mg]
def Ara{n:Nat}{ops:Array Oper}:∀ {qi:List AI} {os:List Oper},Mg P G n ops qi os=true->qi.length=os.length/\∀ (i:Nat) (o:Oper),os[i]?=some o->∃ ai,qi[i]?=some ai/\Yx P G n ops ai o=true
 | [],[],_=>⟨rfl,fun i o h=>by simp at h⟩
 | a::qi,o::os,h=>by
  simp only[Mg,Ai]at h;obtain⟨l,g⟩:=Ara h.2
  grind
 | [],_::_,h=>by grind[Mg]
 | _::_,[],h=>by grind[Mg]
def Av0{n:Nat}{ops:Array Oper}{qi:List AI}(h:Mg P G n ops qi ops.toList=true):∀ (L:List Nat),(∀ i∈L,i<ops.size)->ML P G n ops (D2 qi L) L
 | [],_=>trivial
 | j::L,hL=>by
  have hj:=hL j AE;obtain⟨ai,h1,h2⟩:=(Ara h).2 j ops[j] (by simp[hj]);unfold D2;rw[Nq,h1];exact⟨⟨ops[j],Array.getElem?_eq_getElem hj,h2⟩,Av0 h L (fun i hi=>hL i (by simp[hi]))⟩
def Ax9(qa:List (List Nat)):∀ (fuel t:Nat) (qe:List Nat),(∀ i∈qe,i<qa.length)->∀ i∈Qo qa fuel t qe,i<qa.length
 | 0,_,qe,h=>fun i hi=>h i (by grind[Qo])
 | fuel+1,t,qe,h=>by
  intro i hi;unfold Qo at hi;simp only at hi
  split at hi
  .rename_i j hj;refine Ax9 qa fuel _ (j::qe) (fun k hk=>?_) i hi;rcases Bp.1 hk with rfl | hk
   .have:=(U0.1 (F7 hj)).1
    grind
   grind
  grind
def Aqa:∀ (vs:List V) (k n:Nat),(C4 k vs).get n=if k<=n then vs.getD (n - k) .und else .und
 | [],k,n=>by simp[C4,Env.get]
 | v::vs,k,n=>by
  simp only[C4,Env.get];by_cases h:k=n
  .grind
  .rw[if_neg h,Aqa vs (k+1) n]
   grind
section
variable {n:Nat} {c:Code}
def A79(h:D0 P G n .skip c=true):c=.skip\/∃ l,c=.label l:=by
 cases c<;>simp[D0]at h
 .grind
 grind
def A48{b:Frame}{a:Act}{k:List Item}{cs:List Frame}{w:World}(h:c=.skip\/∃ l,c=.label l):step P (lone (b.at a (.code c::k)) cs w)=.next (lone (b.at a k) cs w):=by
 rcases h with rfl | ⟨l,rfl⟩
 .exact step_skip
 grind[step_label]
def Bcj{kill:List Nat}{qi:List AI}(h:D0 P G n (.reg kill qi) c=true):∃ id ops,c=.region id ops false/\Mg P G n ops qi ops.toList=true:=by
 cases c with
 | region id ops d=>
  cases d with
  | false=>exact⟨id,ops,rfl,h⟩
  | true=>cases h
 | _=>cases h
def Bck{kill:List Nat}{qa:List (List Nat)}{qi:List AI}(h:D0 P G n (.drw kill qa qi) c=true):∃ id ops,c=.region id ops true/\Mg P G n ops qi ops.toList=true/\Ro qa ops.toList=true/\P.follows .mixedOrders=true:=by
 cases c with
 | region id ops d=>
  cases d with
  | false=>cases h
  | true=>
   simp only[D0,Ai]at h
   grind
 | _=>cases h
def Bcl{x y:AC}(h:D0 P G n (.seq x y) c=true):∃ c1 c2,c=.seq c1 c2/\D0 P G n x c1=true/\D0 P G n y c2=true:=by
 cases c<;>simp[D0]at h
 grind
theorem Bcm{s:S}{e:Env}{z:Bool}(h:Aoe s=true)(hc:Ac e s=.bool z):False:=by
 grind[Aoe,Ac]
def A8a{s:S}{kill:List Nat}{x y:AC}{e:Env}{z:Bool}(hc:Ac e s=.bool z)(h:D0 P G n (.cond s kill x y) c=true):∃ o c1 c2,c=.cond o c1 c2/\B8 G s o=true/\D0 P G n x c1=true/\D0 P G n y c2=true:=by
 cases c<;>simp[D0]at h
 case cond=>grind
 all_goals grind[Bcm]
def Bcn{id:Nat}{x:AC}(h:D0 P G n (.blk id x) c=true):(∃ c1,c=.block id c1/\D0 P G n x c1=true)\/∃ c1,c=.scope c1/\1000000<=id/\D0 P G n x c1=true:=by
 cases c<;>simp[D0]at h
 .grind
 grind
def A8b{keep:List Nat}{x:AC}(h:D0 P G n (.loop keep x) c=true):∃ c1,c=.loop c1/\D0 P G n x c1=true:=by
 cases c<;>simp[D0]at h
 grind
def A8c{id:Nat}(h:D0 P G n (.exit id) c=true):c=.exit id/\id<1000000:=by
 cases c<;>simp[D0]at h
 grind
def Bco(h:D0 P G n .ret c=true):c=.ret:=by grind[D0]
end
def Ext.len{N:Nat}{γ γ':Gh}{σ σ':St}{w w':World}(hI:Inv G N γ σ w)(h:Inv G N γ' σ' w')(hx:Ext γ w γ' w'):σ.length<=σ'.length:=by
 rw[<-hI.len,<-h.len];rcases Ww γ.O.length with h0 | h0
 .omega
 .obtain⟨b1,g1,h1,_⟩:=hx.obj (γ.O.length - 1) (γ.O[γ.O.length - 1]' AA).1 (γ.O[γ.O.length - 1]' AA).2 (B9 _)
  grind
def Arb{N:Nat}{γ γ':Gh}{σ:St}{w w':World}{X:List (Nat × Nat)}(hI:Inv G N γ σ w)(hx:Ext γ w γ' w'):Ext γ w ⟨γ'.κ,γ'.O.take σ.length++X⟩ w':=
 ⟨hx.kap,hx.cell,fun i blk g hi=>by
  obtain⟨b1,g1,h1,h2,h3⟩:=hx.obj i blk g hi;have jm:i<σ.length:=by rw[<-hI.len];exact(Ao.1 hi).1
  grind⟩
def Adv{n:Nat}{js is:List Nat}(h:El n js is=true):∀ i∈is,i<n\/i∈js:=fun i hi=>by
 have:=Bu.1 h i hi
 grind
theorem Arc{N:Nat}{γ γ':Gh}{σ σ':St}{w w':World}{v:V}{u:Value}(hI:Inv G N γ σ w)(h:Inv G N γ' σ' w')(hx:Ext γ w γ' w')(hv:El σ.length [] v.refs=true)
  (hb:∀ i ob,i<σ.length->σ'[i]?=some ob->σ[i]?=some ob\/El σ.length [] ob.refs=true) (hr:RepV γ' w' v u) :
  ∃ γ2,RepV γ2 w' v u/\Inv G N γ2 (σ'.take σ.length) w'/\Ext γ w γ2 w'/\∀ b,γ2.κ b=γ'.κ b:=by
 obtain⟨i1,i2⟩:=h.leave (n:=σ.length) (js:=[]) (ρ:=fun i=>i) (Ext.len hI h hx) (fun i hi=>by cases hi) W1 (fun _ _=>rfl) (fun k hk=>by grind) (fun i ob hi ho j hj=>by
  rcases hi with hi | hi
  .rcases hb i ob hi ho with h1 | h1
   .obtain⟨p,_,qd⟩:=hI.of h1;exact .inl (by rw[<-hI.len];exact qd.refs_lt j hj)
   .exact Adv h1 j hj
  grind)
 have e1:(σ'.take σ.length++([]:List Nat).filterMap (σ'[·]?)).map (Ob.ren fun i=>i)=σ'.take σ.length:=by
  simp only[Ux,Cc];have:(Ob.ren fun i=>i)=id:=funext Aq9;rw[this,List.map_id]
 rw[e1]at i1;have qP:=hr.renum (O:=γ'.O.take σ.length++([]:List Nat).filterMap (γ'.O[·]?)) (ρ:=fun i=>i) (fun i hi p hp=>i2 i (Adv hv i hi) p hp);rw[Amc]at qP;exact⟨_,qP,i1,Arb hI hx,fun _=>rfl⟩
theorem Ard{N:Nat}{γ γ':Gh}{σ σ':St}{w w':World}{v:V}{u:Value}{js:List Nat}(hI:Inv G N γ σ w)(h:Inv G N γ' σ' w')(hx:Ext γ w γ' w')(hl:Hy σ.length js v σ'=true)(hr:RepV γ' w' v u):
  ∃ γ2,RepV γ2 w' (v.ren (ren σ.length js)) u/\Inv G N γ2 ((σ'.take σ.length++js.filterMap (σ'[·]?)).map (Ob.ren (ren σ.length js))) w'/\Ext γ w γ2 w'/\∀ b,γ2.κ b=γ'.κ b:=by
 unfold Hy at hl;simp only[Ai,decide_eq_true_eq,Bu]at hl;obtain⟨_,hv,qI,qN,qM⟩:=hl
 obtain⟨i1,i2⟩:=h.leave (n:=σ.length) (js:=js) (ρ:=ren σ.length js) (Ext.len hI h hx) qM qN (fun i hi=>by grind[ren]) (fun k hk=>by
  have jn:=(qM js[k] (M4 hk)).1;unfold ren;rw[if_neg AA];congr 1;have hf:js.findIdx (·==js[k])<js.length:=List.findIdx_lt_length_of_exists ⟨js[k],M4 hk,by simp⟩;have hg:=List.findIdx_getElem (w:=hf);have jl:js[js.findIdx (·==js[k])]=js[k]:=by simpa using hg
  exact Aq3 qN (B9 hf) (by grind)) (fun i ob hi ho j hj=>by
  refine Adv (qI ob ?_) j hj;rw[Cu];rcases hi with hi | hi
  .exact .inl (F7 (by rw[Wv,if_pos hi];exact ho))
  grind)
 exact⟨_,hr.renum (fun i hi p hp=>i2 i (Adv hv i hi) p hp),i1,Arb hI hx,fun _=>rfl⟩
theorem Ra:∀ (js:List Nat) (σ:St),(σ.freeze js).length=σ.length
 | [],_=>rfl
 | i::js,σ=>by
  simp only[St.freeze]
  split
  .rw[Ra js,U1]
  .exact Ra js σ
def A8d{γ:Gh}{w w1:World}{κ:Ey}{O:List (Nat × Nat)}(h:Ext γ w ⟨κ,O⟩ w1)(O':List (Nat × Nat)):Ext γ w ⟨κ,O++O'⟩ w1 where
 kap:=h.kap
 cell:=h.cell
 obj:=fun i blk g hi=>by
  obtain⟨b',g',h1,h2,h3⟩:=h.obj i blk g hi
  grind
def A8e{N M:Nat}{O:List (Nat × Nat)}{γ':Gh}{σ σ0:St}{w1:World}(h1:Inv G N ⟨γ'.κ,O⟩ σ w1)(h2:Inv G M γ' σ0 w1)(hM:∀ (i:Nat) (p:Nat × Nat),O[i]?=some p->p.1<M)(qU:N<=M):
  Inv G N ⟨γ'.κ,O++γ'.O⟩ (σ++σ0.map (Ob.ren (·+σ.length))) w1 where
 base:=h1.base
 len:=by
  have e1:=h1.len;have e2:=h2.len
  grind
 nd:=by
  rw[Fz,Aii];refine⟨h1.nd,h2.nd,fun a ha b hb=>?_⟩;obtain⟨p,hp,rfl⟩:=Cs.1 ha;obtain⟨q,hq,rfl⟩:=Cs.1 hb;obtain⟨i,hi,rfl⟩:=Ou hp;obtain⟨j,hj,rfl⟩:=Ou hq;have:=hM i _ (B9 hi);have:=h2.low j _ (B9 hj);omega
 low:=fun i p hp=>by
  by_cases hi:i<O.length
  .exact h1.low i p (by grind)
  .rw[F6 AA]at hp;exact C8 qU (h2.low _ p hp)
 obj:=fun i ob p hs hp=>by
  have hl:O.length=σ.length:=h1.len;by_cases hi:i<σ.length
  .rw[Es hi]at hs;rw[Es AA]at hp;have:=(h1.obj i ob p hs hp).renum (O:=O++γ'.O) (ρ:=fun i=>i) (fun j _ q hq=>by grind)
   grind[Aq9]
  .rw[F6 AA,Au]at hs;rw[F6 AA]at hp;obtain⟨jh,h0,rfl⟩:=Cf.1 hs
   exact(h2.obj _ jh p h0 (by grind)).renum (O:=O++γ'.O) (ρ:=(·+σ.length)) (fun j _ q hq=>by
    grind)
 dom:=h1.dom
 glob:=fun g r hg=>by
  obtain⟨b,o,k,row,hu,a1,a2,a3,a4⟩:=Nx (h1.glob g r hg);rw[hu];exact .imm row a1 a2 a3 a4
 gsz:=h1.gsz
def Ae7(hT:∀ f F,T f=some F->F.spec=none->Se P G f F=true){f:Nat}{args:List V}{σ σ' σ2:St}{e':Env}{F:AF}{v v2:V}(hF:T f=some F)(qc:F.spec=none)(hl:args.length=F.pars)(qf:Cd e' σ' F.res=some v)(qo:Ci v=true)
  (hk:∀ (γ γ':Gh) (w w':World) (N:Nat) (u:Value),Inv G N γ σ w->Inv G N γ' σ' w'->Ext γ w γ' w'->RepV γ' w' v u->∃ γ2,RepV γ2 w' v2 u/\Inv G N γ2 σ2 w'/\Ext γ w γ2 w'/\∀ b,b<N->γ2.κ b=γ'.κ b)
  (ih:Am9 P G (.code [.c F.body] (C4 0 args) σ e' σ')):Am9 P G (.fn f args σ v2 σ2):=by
 intro us w γ N qt qJ hI;obtain⟨fn,c,hf,hb,hC,hR,qO,hn⟩:=Z4 (hT f F hF qc);intro cs
 let b:Frame:={ (default:Frame) with fn:=f,kind:=.normal }
 have jd:(us.toArray++Array.replicate (fn.ntmps - us.toArray.size) undef).size=fn.ntmps:=by simp;omega
 have qx:Frame.enter P f us.toArray .normal=b.at { tmps:=us.toArray++Array.replicate (fn.ntmps - us.toArray.size) undef,defers:=[] } [.code c]:=by
  simp[Frame.enter,Frame.at,hf,hb,b]
 have qS:RepE γ w (C4 0 args) (us.toArray++Array.replicate (fn.ntmps - us.toArray.size) undef):=fun m=>by
  rw[Aqa,if_pos (Ax _),Adl];by_cases hm:m<args.length
  .have:=qJ m hm
   have e1:(us.toArray++Array.replicate (fn.ntmps - us.toArray.size) undef).getD m undef=us.getD m undef:=by
    rw[Array.getD_eq_getD_getElem?,Array.getElem?_append_left (by grind),Ac0,Ef]
   grind
  .rw[show args.getD m .und=.und by grind];exact .und
 obtain⟨a',w',qj,hs,γ',g1,g2,g3,g4,g5,g6,g7⟩:=ih fn.ntmps [] [.code c] { tmps:=us.toArray++Array.replicate (fn.ntmps - us.toArray.size) undef,defers:=[] } w γ N (.c hC .nil) jd rfl qS hI b cs;rw[<-qx]at hs
 have qp:∃ u,(results fn a'.tmps).run P w'=.ok u w'/\RepV γ' w' v u:=by
  have qY:∀ us':List Value,(fn.results.toList.mapM (Aa9 a'.tmps)).run P w'=.ok us' w'->(results fn a'.tmps).run P w'=.ok (if h:us'.toArray.size=1 then us'.toArray[0] else .tuple us'.toArray) w':=fun us' h=>by
   have e1:results fn a'.tmps=(do let vs <-fn.results.mapM (Aa9 a'.tmps);pure (if h:vs.size=1 then vs[0] else .tuple vs)):=by
    unfold results;congr 2
   simp_all [Array.mapM_eq_mapM_toList]
  unfold Cd at qf
  split at qf
  .rename_i r jb;rw[jb]at hR;have hm:[r].mapM (Gs e' σ')=some [v]:=by simp[qf]
   obtain⟨us',k1,k2,k3,k4⟩:=Alc (P:=P) g1 g2 hR hm;obtain⟨u,rfl⟩:=List.length_eq_one_iff.1 (show us'.length=1 by grind);refine⟨u,by grind,?_⟩;simpa using k4 0 AE
  .rename_i rs jp;simp only[Cf]at qf;obtain⟨vs,hm,rfl⟩:=qf;obtain⟨us',k1,k2,k3,k4⟩:=Alc (P:=P) g1 g2 hR hm
   have jo:us'.length≠1:=fun h1=>by
    have:F.res.length=1:=by
     have:=(Re hm).1;omega
    grind[List.length_eq_one_iff]
   refine⟨.tuple us'.toArray,by grind,.tup k2 (fun j hj=>?_)⟩;refine Bci ?_ (k4 j hj);have:=Bu.1 (show vs.all Hm=true from qo) (vs.getD j .und) (by grind);omega
 obtain⟨u,hu,hv⟩:=qp;obtain⟨γ2,i1,i2,i3,i4⟩:=hk γ γ' w w' N u hI g2 g3 hv;exact⟨.returned u,w',_,⟨u,γ2,rfl,i1,i2,i3,g4,fun b hb=>(i4 b hb).trans (g5 b hb)⟩,hs,rfl,rfl,g7,rfl,fn,hf,hu⟩
def Az4(hT:∀ f F,T f=some F->F.spec=none->Se P G f F=true)(hS:∀ f F s,T f=some F->F.spec=some s->Tq P G f s)(ja:∀ f s,pr f=some s->Iz P G f s){j:J}(h:Ev T pr j):Am9 P G j:=by
 induction h with
 | opsNil=>
  intro n D ops L a w γ N Q hM ha hd hE hI hQ
  cases L with
  | nil=>exact hQ a w ⟨γ,hE,hI,Ext.refl _ _,Below.refl _ _,fun _ _=>rfl,ha,hd⟩
  | cons=>exact hM.elim
 | opsSkip hw _ ih=>
  intro n D ops L a w γ N Q hM ha hd hE hI hQ;obtain⟨j,js,o,rfl,ho,qd,ql⟩:=hM.tail;obtain⟨k1,k2,k3,k4⟩:=Sq qd;refine Bhi ho (Su k3 ha hE hw) ?_;obtain⟨p1,p2,p3⟩:=S4 (u:=undef) k2 ha hE .skp;rw[k1]at p1 p2 p3;exact ih n D ops js _ w γ N Q ql p2 (p3.trans hd) (by grind) hI hQ
 | @opsVal i l e e' σ σ1 σ' v hw hv _ ih=>
  intro n D ops L a w γ N Q hM ha hd hE hI hQ;obtain⟨j,js,o,rfl,ho,qd,ql⟩:=hM.tail;obtain⟨k1,k2,k3,k4⟩:=Sq qd;refine V0 (n:=n) ho (Su k3 ha hE hw) ?_
  have jg:Yw P G i.op o.op=true:=by
   split at k4
   .grind[Ad]
   .grind[Ad]
   .exact k4
  obtain⟨u,w1,γ1,hr,jf,qT,qR,qV,qX⟩:=Bmb jg hE hI hv;obtain⟨p1,p2,p3⟩:=S4 (u:=u) k2 ha (hE.ext qR) jf
  have next:wpOps P ops Q js (a.put o.dst u) w1:=by
   rw[<-k1];exact ih n D ops js _ w1 γ1 N Q ql p2 (p3.trans hd) p1 qT (fun a' w' hl=>hQ a' w' (hl.after qR qV qX))
  unfold Oper.wp;rcases hr with hr | ⟨hr,rfl⟩
  .rw[hr];exact next
  .rw[hr];exact next
 | @opsPrim i f args l e e' σ σ' s vs v hw hc hp hx hs _ ih=>
  intro n D ops L a w γ N Q hM ha hd hE hI hQ;obtain⟨j,js,o,rfl,ho,qd,ql⟩:=hM.tail;obtain⟨k1,k2,k3,k4⟩:=Sq qd;refine V0 (n:=n) ho (Su k3 ha hE hw) ?_;obtain⟨⟨fn,c,hf,hb,hn⟩,qE⟩:=ja f s hp;obtain⟨us,qg,qv,qr⟩:=W6 (ops:=ops) (n:=n) k4 hc hE hI hf hb hn;obtain⟨κ1,z1,z2,z3,z4,_⟩:=hI.freeze (Mp σ args);obtain⟨ml,mg⟩:=Re hx;unfold Oper.wp;rw[qg];have qA:=Akd z1;refine(qE κ1 w vs us v qA.glob (fun g r hg=>(qA.gsz g r hg).2) z1.dom AA (fun j hj=>?_) hs).mono ?_
  .grind[Zo]
  rintro _ w1 ⟨u,κ',rfl,hu,qm,hk,qG⟩;obtain⟨γ1,q1,q2,q3,q4,q5⟩:=Ap8 (args:=args) hI z1 z2 z3 qm hk qG hu;obtain⟨p1,p2,p3⟩:=S4 (u:=u) k2 ha (hE.ext q2) q3;show wpOps P ops Q js (a.put o.dst u) w1;rw[<-k1];exact ih n D ops js _ w1 _ N Q ql p2 (p3.trans hd) p1 q1 (fun a' w' hl=>hQ a' w' (hl.after q2 q5 q4))
 | @opsPure i f args l e e' σ σ0 σ' F vs v v' hw hc hF hthr qc hx _ hv _ ihf ih=>
  intro n D ops L a w γ N Q hM ha hd hE hI hQ;obtain⟨j,js,o,rfl,ho,qd,ql⟩:=hM.tail;obtain⟨k1,k2,k3,k4⟩:=Sq qd;refine V0 (n:=n) ho (Su k3 ha hE hw) ?_;obtain⟨fn,c,hf,hb,_,_,_,hn⟩:=Z4 (hT f F hF qc);obtain⟨us,qg,qv,qr⟩:=W6 (ops:=ops) (n:=n) k4 hc hE hI hf hb hn;obtain⟨κ1,z1,z2,z3,z4,_⟩:=hI.freeze (Mp σ args);obtain⟨ml,mg⟩:=Re hx;unfold Oper.wp;rw[qg];have qA:=Akd z1;refine(ihf us w ⟨κ1,[]⟩ w.heap.size AA (fun j hj=>?_) qA).mono ?_
  .have qC:j<args.length:=by omega
   obtain⟨y,hy,qH⟩:=mg j _ (B9 qC);rw[show vs.getD j .und=y by grind];have:=qr j qC;rw[show args.getD j .und=args[j] by grind]at this;exact .one (Zo hI z2 z4 qH this [])
  rintro _ w1 ⟨u,γ',rfl,hu,qn,qs,qm,hk⟩;obtain⟨κ2,y1,y2,y3,y4,_⟩:=qn.freeze (Fr σ0 9 v.refs.eraseDups);have je:RepV ⟨κ2,[]⟩ w1 v' u:=Ado qn y2 y4 hv hu [];obtain⟨γ1,q1,q2,q3,q4,q5⟩:=Ap8 (args:=args) hI z1 z2 z3 qm (fun b qq=>(y3 b qq).trans (hk b qq)) y1.dom je;obtain⟨p1,p2,p3⟩:=S4 (u:=u) k2 ha (hE.ext q2) q3;show wpOps P ops Q js (a.put o.dst u) w1;rw[<-k1];exact ih n D ops js _ w1 _ N Q ql p2 (p3.trans hd) p1 q1 (fun a' w' hl=>hQ a' w' (hl.after q2 q5 q4))
 | @opsOwn i f args l e e' σ σ0 σ' F vs v hw hc hF hthr qc hx _ _ ihf ih=>
  intro n D ops L a w γ N Q hM ha hd hE hI hQ;obtain⟨j,js,o,rfl,ho,qd,ql⟩:=hM.tail;obtain⟨k1,k2,k3,k4⟩:=Sq qd;refine V0 (n:=n) ho (Su k3 ha hE hw) ?_;obtain⟨fn,c,hf,hb,_,_,_,hn⟩:=Z4 (hT f F hF qc);obtain⟨us,qg,qv,qr⟩:=W6 (ops:=ops) (n:=n) k4 hc hE hI hf hb hn;obtain⟨κ1,z1,z2,z3,z4,_⟩:=hI.freeze (Mp σ args);obtain⟨ml,mg⟩:=Re hx;unfold Oper.wp;rw[qg];have qA:=Akd z1;refine(ihf us w ⟨κ1,[]⟩ w.heap.size AA (fun j hj=>?_) qA).mono ?_
  .have qC:j<args.length:=by omega
   obtain⟨y,hy,qH⟩:=mg j _ (B9 qC);rw[show vs.getD j .und=y by grind];have:=qr j qC;rw[show args.getD j .und=args[j] by grind]at this;exact .one (Zo hI z2 z4 qH this [])
  rintro _ w1 ⟨u,γ',rfl,hu,qn,qs,qm,hk⟩;obtain⟨i1,i2⟩:=z1.more (w':=w1) (κ':=γ'.κ) (fun b qq=>qm.block b qq) qm.size hk qn.dom;have qt:(σ.freeze (Mp σ args)).length=σ.length:=Ra _ _;have q1:=A8e i1 qn (fun i p hp=>hI.oblt hp) hI.base;rw[qt]at q1;have q2:Ext γ w ⟨γ'.κ,γ.O++γ'.O⟩ w1:=A8d (z2.trans i2) _
  have q3:RepV ⟨γ'.κ,γ.O++γ'.O⟩ w1 (v.ren (·+σ.length)) u:=hu.renum (fun i hi p hp=>by
   rw[F6 (by rw[hI.len];omega),hI.len,Nat.add_sub_cancel];exact hp)
  obtain⟨p1,p2,p3⟩:=S4 (u:=u) k2 ha (hE.ext q2) q3;show wpOps P ops Q js (a.put o.dst u) w1;rw[<-k1];exact ih n D ops js _ w1 _ N Q ql p2 (p3.trans hd) p1 q1 (fun a' w' hl=>hQ a' w' (hl.after q2 (qm.mono hI.base) (fun b qq=>(hk b (Px qq hI.base)).trans (z3 b qq))))
 | @opsAny i f args l e e' σ σ1 σ' F v hw hc hF qc _ _ ihf ih=>
  intro n D ops L a w γ N Q hM ha hd hE hI hQ;obtain⟨j,js,o,rfl,ho,qd,ql⟩:=hM.tail;obtain⟨k1,k2,k3,k4⟩:=Sq qd;refine V0 (n:=n) ho (Su k3 ha hE hw) ?_;obtain⟨fn,c,hf,hb,_,_,_,hn⟩:=Z4 (hT f F hF qc);obtain⟨us,qg,qv,qr⟩:=W6 (ops:=ops) (n:=n) k4 hc hE hI hf hb hn;unfold Oper.wp;rw[qg];refine(ihf us w γ N qv qr hI).mono ?_;rintro _ w1 ⟨u,γ',rfl,hu,qn,qs,qm,hk⟩;obtain⟨p1,p2,p3⟩:=S4 (u:=u) k2 ha (hE.ext qs) hu;show wpOps P ops Q js (a.put o.dst u) w1;rw[<-k1];exact ih n D ops js _ w1 _ N Q ql p2 (p3.trans hd) p1 qn (fun a' w' hl=>hQ a' w' (hl.after qs qm hk))
 | @opsThr i f args l e e' σ σ1 σ' F v hw hc hF hthr qc _ _ ihf ih=>
  intro n D ops L a w γ N Q hM ha hd hE hI hQ;obtain⟨j,js,o,rfl,ho,qd,ql⟩:=hM.tail;obtain⟨k1,k2,k3,k4⟩:=Sq qd;refine V0 (n:=n) ho (Su k3 ha hE hw) ?_;obtain⟨fn,c,hf,hb,_,_,_,hn⟩:=Z4 (hT f F hF qc);obtain⟨us,qg,qv,qr⟩:=W6 (ops:=ops) (n:=n) k4 hc hE hI hf hb hn;unfold Oper.wp;rw[qg];refine(ihf us w γ N qv qr hI).mono ?_;rintro _ w1 ⟨u,γ',rfl,hu,qn,qs,qm,hk⟩;obtain⟨p1,p2,p3⟩:=S4 (u:=u) k2 ha (hE.ext qs) hu;show wpOps P ops Q js (a.put o.dst u) w1;rw[<-k1];exact ih n D ops js _ w1 _ N Q ql p2 (p3.trans hd) p1 qn (fun a' w' hl=>hQ a' w' (hl.after qs qm hk))
 | @opsSpec i f args l e e' σ σ1 σ' F s v hw hc hF hthr qc hs _ ih=>
  intro n D ops L a w γ N Q hM ha hd hE hI hQ;obtain⟨j,js,o,rfl,ho,qd,ql⟩:=hM.tail;obtain⟨k1,k2,k3,k4⟩:=Sq qd;refine V0 (n:=n) ho (Su k3 ha hE hw) ?_;obtain⟨⟨fn,c,hf,hb,hn⟩,qz⟩:=hS f F s hF qc;obtain⟨us,qg,qv,qr⟩:=W6 (ops:=ops) (n:=n) k4 hc hE hI hf hb hn;unfold Oper.wp;rw[qg];refine(qz _ σ v σ1 hs us w γ N qv qr hI).mono ?_;rintro _ w1 ⟨u,γ',rfl,hu,qn,qs,qm,hk⟩;obtain⟨p1,p2,p3⟩:=S4 (u:=u) k2 ha (hE.ext qs) hu;show wpOps P ops Q js (a.put o.dst u) w1;rw[<-k1];exact ih n D ops js _ w1 _ N Q ql p2 (p3.trans hd) p1 qn (fun a' w' hl=>hQ a' w' (hl.after qs qm hk))
 | fn hF qc hl _ qf hok1 hok2 hok3 ih=>
  refine Ae7 hT hF qc hl qf hok1 (fun γ γ' w w' N u hI h2 hx hv=>?_) ih
  grind[Arc]
 | fnL hF qc hl _ qf qd ih=>
  refine Ae7 hT hF qc hl qf (by simp_all [Hy]) (fun γ γ' w w' N u hI h2 hx hv=>?_) ih
  grind[Ard]
 | fnS hF qc hl _ qf qo hset hok2 hok3 ih=>
  refine Ae7 hT hF qc hl qf qo (fun γ γ' w w' N u hI h2 hx hv=>?_) ih;obtain⟨κ2,y1,y2,y3,y4,_⟩:=h2.freeze _;obtain⟨γ2,i1,i2,i3,i4⟩:=Arc hI y1 (hx.trans y2) hok2 hok3 (Ado h2 y2 y4 hset hv γ'.O)
  grind
 | fnZ hF qc hl _ qf qo hset qd ih=>
  refine Ae7 hT hF qc hl qf qo (fun γ γ' w w' N u hI h2 hx hv=>?_) ih;obtain⟨κ2,y1,y2,y3,y4,_⟩:=h2.freeze _;obtain⟨γ2,i1,i2,i3,i4⟩:=Ard hI y1 (hx.trans y2) qd (Ado h2 y2 y4 hset hv γ'.O)
  grind
 | cNil=>
  intro n D qh a w γ N hM ha hd hE hI b cs;cases hM;exact⟨a,w,[],.one step_end,γ,hE,hI,Ext.refl _ _,Below.refl _ _,fun _ _=>rfl,ha,hd⟩
 | cSkip _ ih=>
  intro n D qh a w γ N hM ha hd hE hI b cs
  cases hM with
  | c qd hM=>
   have jc:=A79 qd;obtain⟨a',w',t',hs,hl⟩:=ih n D _ a w γ N hM ha hd hE hI b cs;exact⟨a',w',t',.head (A48 jc) hs,hl⟩
 | @cReg kill qi k e e1 e' σ σ1 σ' _ _ ih1 ih2=>
  intro n D qh a w γ N hM ha hd hE hI b cs
  cases hM with
  | @c _ _ _ qj qd hM=>
   obtain⟨id,ops,rfl,qy⟩:=Bcj qd
   have hw:=ih1 n D ops (List.range ops.size) a w γ N (fun ex a' w'=>ex=.normal/\Leaves G N n D γ σ w e1 σ1 a' w') (by
    have:=As1 qi ops.toList 0 qy AE
    grind[List.range_eq_range']) ha hd hE hI (fun a' w' h=>⟨rfl,h⟩)
   obtain⟨ex,a1,w1,⟨rfl,γ1,q1,q2,q3,q4,q5,q6,q7⟩,qw⟩:=wp_ops _ a w hw b qj cs;obtain⟨a',w',t',hs,hl⟩:=ih2 n D _ a1 w1 γ1 N hM q6 q7 (q1.del kill) q2 b cs;exact⟨a',w',t',.head step_region (Steps.trans qw hs),hl.after q3 q4 q5⟩
 | @cDrw kill qa qi k e e1 e' σ σ1 σ' E2 _ hE2 _ ih1 ih2=>
  intro n D qh a w γ N hM ha hd hE hI b cs
  cases hM with
  | @c _ _ _ qj qd hM=>
   obtain⟨id,ops,rfl,qy,qB,qZ⟩:=Bck qd;obtain⟨d1,d2⟩:=hI.drew;have qt:qa.length=ops.size:=by simpa using (Ael qB).1
   have qK:∀ t,Region.schedule (P.follows .mixedOrders) ops t=Q0 qa t:=fun t=>by
    grind[Region.schedule,Bhh]
   have hw:=ih1 (w.tape w.drawn (.order b.fn id)) n D ops (Q0 qa (w.tape w.drawn (.order b.fn id))) a w.drew γ N (fun ex a' w'=>ex=.normal/\Leaves G N n D γ σ w.drew (E2 (w.tape w.drawn (.order b.fn id))) σ1 a' w')
    (Av0 qy _ (fun i hi=>by rw[<-qt];exact Ax9 qa _ _ [] (fun i hi=>by cases hi) i hi)) ha hd (hE.ext d2) d1 (fun a' w' h=>⟨rfl,h⟩)
   obtain⟨ex,a1,w1,⟨rfl,γ1,q1,q2,q3,q4,q5,q6,q7⟩,qw⟩:=wp_ops _ a w.drew hw b qj cs;have ji:RepE γ1 w1 e1 a1.tmps:=fun m=>by rw[<-hE2 (w.tape w.drawn (.order b.fn id)) m];exact q1 m
   obtain⟨a',w',t',hs,hl⟩:=ih2 n D _ a1 w1 γ1 N hM q6 q7 (ji.del kill) q2 b cs;have qu:=step_region_draw (P:=P) (b:=b) (a:=a) (k:=qj) (cs:=cs) (w:=w) (ops:=ops) (id:=id);rw[qK]at qu;exact⟨a',w',t',.head qu (Steps.trans qw hs),(Leaves.after (σ:=σ) (σ1:=σ) d2 (Below.refl _ _).drew (fun _ _=>rfl) (Leaves.after (σ:=σ) q3 q4 q5 hl))⟩
 | cSeq _ ih=>
  intro n D qh a w γ N hM ha hd hE hI b cs
  cases hM with
  | c qd hM=>
   obtain⟨c1,c2,rfl,h1,h2⟩:=Bcl qd;obtain⟨a',w',t',hs,hl⟩:=ih n D _ a w γ N (.c h1 (.c h2 hM)) ha hd hE hI b cs;exact⟨a',w',t',.head step_seq hs,hl⟩
 | @cCond s kill x y k e e' σ σ' z hc _ ih=>
  intro n D qh a w γ N hM ha hd hE hI b cs
  cases hM with
  | c qd hM=>
   obtain⟨o,c1,c2,rfl,h1,h2,h3⟩:=A8a hc qd;have hr:=Aal (a:=a) h1 hE hI;rw[hc]at hr;have hz:=Py (Bc rfl hr);obtain⟨a',w',t',hs,hl⟩:=ih n D _ a w γ N (.c (c:=if z then c1 else c2) (by grind) hM) ha hd (hE.del kill) hI b cs;exact⟨a',w',t',.head (step_cond hz) hs,hl⟩
 | cBlk _ ih=>
  intro n D qh a w γ N hM ha hd hE hI b cs
  cases hM with
  | c qd hM=>
   rcases Bcn qd with⟨c1,rfl,h1⟩ | ⟨c1,rfl,hi,h1⟩
   .obtain⟨a',w',t',hs,hl⟩:=ih n D _ a w γ N (.c h1 (.b hM)) ha hd hE hI b cs;exact⟨a',w',t',.head step_block hs,hl⟩
   .obtain⟨a',w',t',hs,hl⟩:=ih n D _ a w γ N (.c h1 (.s hi hM)) ha hd hE hI b cs;exact⟨a',w',t',.head step_scope hs,hl⟩
 | cEnd _ ih=>
  intro n D qh a w γ N hM ha hd hE hI b cs
  cases hM with
  | b hM=>
   obtain⟨a',w',t',hs,hl⟩:=ih n D _ a w γ N hM ha hd hE hI b cs;exact⟨a',w',t',.head step_inBlock hs,hl⟩
  | s _ hM=>
   obtain⟨a',w',t',hs,hl⟩:=ih n D _ a w γ N hM ha hd hE hI b cs;exact⟨a',w',t',.head step_inScope hs,hl⟩
 | cLoop _ ih=>
  intro n D qh a w γ N hM ha hd hE hI b cs
  cases hM with
  | c qd hM=>
   obtain⟨c1,rfl,h1⟩:=A8b qd;exact ih n D _ a w γ N (.l' h1 hM) ha hd hE hI b cs
 | @cAgain keep c k e e' σ σ' _ ih=>
  intro n D qh a w γ N hM ha hd hE hI b cs
  cases hM with
  | l qd hM=>
   obtain⟨a',w',t',hs,hl⟩:=ih n D _ a w γ N (.c qd (.l qd hM)) ha hd (hE.keep keep) hI b cs;exact⟨a',w',t',.head step_inLoop hs,hl⟩
  | l' qd hM=>
   obtain⟨a',w',t',hs,hl⟩:=ih n D _ a w γ N (.c qd (.l qd hM)) ha hd (hE.keep keep) hI b cs;exact⟨a',w',t',.head step_loop hs,hl⟩
 | cExit hk _ ih=>
  intro n D qh a w γ N hM ha hd hE hI b cs
  cases hM with
  | c qd hM=>
   obtain⟨rfl,qq⟩:=A8c qd;obtain⟨qj,h1,h2⟩:=hM.exit qq hk;obtain⟨a',w',t',hs,hl⟩:=ih n D _ a w γ N h2 ha hd hE hI b cs;exact⟨a',w',t',.head (step_exit h1) hs,hl⟩
 | cRet=>
  intro n D qh a w γ N hM ha hd hE hI b cs
  cases hM with
  | c qd hM=>
   obtain rfl:=Bco qd;exact⟨a,w,_,.one step_ret,γ,hE,hI,Ext.refl _ _,Below.refl _ _,fun _ _=>rfl,ha,hd⟩
variable {T:Nat->Option AF} {pr:Nat->Option (List V->Option V)}
def W(T:Nat->Option AF)(pr:Nat->Option (List V->Option V))(k:List It)(e:Env)(σ:St)(Q:Env->St->Prop):Prop:=∃ e' σ',Ev T pr (.code k e σ e' σ')/\Q e' σ'
def WO(T:Nat->Option AF)(pr:Nat->Option (List V->Option V))(l:List AI)(e:Env)(σ:St)(Q:Env->St->Prop):Prop:=∃ e' σ',Ev T pr (.ops l e σ e' σ')/\Q e' σ'
section
variable {Q:Env->St->Prop} {e:Env} {σ:St} {k:List It}
def Bmc{a b:AC}(h:W T pr (.c a::.c b::k) e σ Q):W T pr (.c (.seq a b)::k) e σ Q:=let ⟨e',σ',h,q⟩:=h;⟨e',σ',.cSeq h,q⟩
def Bhj(h:W T pr k e σ Q):W T pr (.c .skip::k) e σ Q:=let ⟨e',σ',h,q⟩:=h;⟨e',σ',.cSkip h,q⟩
def Bmd{id:Nat}{c:AC}(h:W T pr (.c c::.b id::k) e σ Q):W T pr (.c (.blk id c)::k) e σ Q:=let ⟨e',σ',h,q⟩:=h;⟨e',σ',.cBlk h,q⟩
def Bme{id:Nat}(h:W T pr k e σ Q):W T pr (.b id::k) e σ Q:=let ⟨e',σ',h,q⟩:=h;⟨e',σ',.cEnd h,q⟩
def Bhk{keep:List Nat}{c:AC}(h:W T pr (.l keep c::k) e σ Q):W T pr (.c (.loop keep c)::k) e σ Q:=let ⟨e',σ',h,q⟩:=h;⟨e',σ',.cLoop h,q⟩
def Bcp{keep:List Nat}{c:AC}(h:W T pr (.c c::.l keep c::k) (e.keep keep) σ Q):W T pr (.l keep c::k) e σ Q:=let ⟨e',σ',h,q⟩:=h;⟨e',σ',.cAgain h,q⟩
def Bhl{id:Nat}{k':List It}(hk:exitTo id k=some k')(h:W T pr k' e σ Q):W T pr (.c (.exit id)::k) e σ Q:=let ⟨e',σ',h,q⟩:=h;⟨e',σ',.cExit hk h,q⟩
def Bmf(q:Q e σ):W T pr (.c .ret::k) e σ Q:=⟨e,σ,.cRet,q⟩
def Bmg(q:Q e σ):W T pr [] e σ Q:=⟨e,σ,.cNil,q⟩
def Aya{c:S}{kill:List Nat}{x y:AC}{z:Bool}(hc:Ac e c=.bool z)(h1:z=true->W T pr (.c x::k) (e.del kill) σ Q)(h2:z=false->W T pr (.c y::k) (e.del kill) σ Q):W T pr (.c (.cond c kill x y)::k) e σ Q:=by
 cases z with
 | true=>
  obtain⟨e',σ',h,q⟩:=h1 rfl;exact⟨e',σ',.cCond hc h,q⟩
 | false=>
  obtain⟨e',σ',h,q⟩:=h2 rfl;exact⟨e',σ',.cCond hc h,q⟩
def A8f{c:S}{kill:List Nat}{x y:AC}(hc:Ac e c=.bool true)(h:W T pr (.c x::k) (e.del kill) σ Q):W T pr (.c (.cond c kill x y)::k) e σ Q:=Aya hc (fun _=>h) (fun h=>by cases h)
def A8g{c:S}{kill:List Nat}{x y:AC}(hc:Ac e c=.bool false)(h:W T pr (.c y::k) (e.del kill) σ Q):W T pr (.c (.cond c kill x y)::k) e σ Q:=Aya hc (fun h=>by cases h) (fun _=>h)
def Fn(T:Nat->Option AF)(pr:Nat->Option (List V->Option V))(f:Nat)(vs:List V)(v:V):Prop:=∃ F,T f=some F/\F.thr=false/\F.spec=none/\∃ v0 σ0,Ev T pr (.fn f vs [] v0 σ0)/\Ed σ0 v0=some v
def FnO(T:Nat->Option AF)(pr:Nat->Option (List V->Option V))(f:Nat)(vs:List V)(v:V)(σ0:St):Prop:=∃ F,T f=some F/\F.thr=false/\F.spec=none/\Ev T pr (.fn f vs [] v σ0)
def Th(T:Nat->Option AF)(pr:Nat->Option (List V->Option V))(f:Nat)(vs:List V)(σ:St)(v:V)(σ':St):Prop:=∃ F,T f=some F/\F.thr=true/\F.spec=none/\Ev T pr (.fn f vs σ v σ')
def Bw(T:Nat->Option AF)(pr:Nat->Option (List V->Option V))(f:Nat)(vs:List V)(σ:St)(v:V)(σ':St):Prop:=∃ F,T f=some F/\F.spec=none/\Ev T pr (.fn f vs σ v σ')
def Aof(n:Nat)(σ:St)(v:V)(σ1:St):Prop:=Ci v=true/\El n [] v.refs=true/\∀ i ob,i<n->σ1[i]?=some ob->σ[i]?=some ob\/El n [] ob.refs=true
def As2{f:Nat}{vs:List V}{v:V}{F:AF}{σ':St}(hT:T f=some F)(ht:F.thr=true)(qc:F.spec=none)(hl:vs.length=F.pars)(h:W T pr [.c F.body] (C4 0 vs) σ fun e' σ1=>Cd e' σ1 F.res=some v/\Aof σ.length σ v σ1/\σ'=σ1.take σ.length):Th T pr f vs σ v σ':=by
 obtain⟨e',σ1,hE,hr,⟨h1,h2,h3⟩,rfl⟩:=h;exact⟨F,hT,ht,qc,.fn hT qc hl hE hr h1 h2 h3⟩
def A49{f:Nat}{vs:List V}{v:V}{F:AF}{σ':St}(hT:T f=some F)(ht:F.thr=true)(qc:F.spec=none)(hl:vs.length=F.pars)(h:W T pr [.c F.body] (C4 0 vs) σ fun e' σ1=>∃ v0 js,Cd e' σ1 F.res=some v0/\Hy σ.length js v0 σ1=true/\v=v0.ren (ren σ.length js)/\σ'=(σ1.take σ.length++js.filterMap (σ1[·]?)).map (Ob.ren (ren σ.length js))):Th T pr f vs σ v σ':=by
 obtain⟨e',σ1,hE,v0,js,hr,qF,rfl,rfl⟩:=h;exact⟨F,hT,ht,qc,.fnL hT qc hl hE hr qF⟩
def As3{f:Nat}{vs:List V}{v:V}{F:AF}(hT:T f=some F)(ht:F.thr=false)(qc:F.spec=none)(hl:vs.length=F.pars)(h:W T pr [.c F.body] (C4 0 vs) [] fun e' σ'=>∃ v0,Cd e' σ' F.res=some v0/\Ci v0=true/\v0.refs=[]/\Ed [] v0=some v):Fn T pr f vs v:=by
 obtain⟨e',σ',hE,v0,hr,ho,hn,hb⟩:=h;have:=Ev.fn (T:=T) (pr:=pr) hT qc hl hE hr ho (by rw[hn];rfl) (fun i ob hi=>by grind);exact⟨F,hT,ht,qc,v0,_,this,hb⟩
def A5a{f:Nat}{vs:List V}{v:V}{F:AF}(hT:T f=some F)(ht:F.thr=false)(qc:F.spec=none)(hl:vs.length=F.pars)(h:W T pr [.c F.body] (C4 0 vs) [] fun e' σ1=>∃ v0 js,Cd e' σ1 F.res=some v0/\Hy 0 js v0 σ1=true/\Ed ((js.filterMap (σ1[·]?)).map (Ob.ren (ren 0 js))) (v0.ren (ren 0 js))=some v):Fn T pr f vs v:=by
 obtain⟨e',σ',hE,v0,js,hr,qF,hb⟩:=h;have:=Ev.fnL (T:=T) (pr:=pr) hT qc hl hE hr qF;exact⟨F,hT,ht,qc,_,_,this,by grind⟩
def Are{f:Nat}{vs:List V}{v:V}{F:AF}{σ':St}(hT:T f=some F)(qc:F.spec=none)(hl:vs.length=F.pars)(h:W T pr [.c F.body] (C4 0 vs) σ fun e' σ1=>∃ v0 js,Cd e' σ1 F.res=some v0/\Ci v0=true/\Ky σ1 js v0=some v/\El σ.length [] v.refs=true/\(∀ i ob,i<σ.length->(σ1.freeze js)[i]?=some ob->σ[i]?=some ob\/El σ.length [] ob.refs=true)/\σ'=(σ1.freeze js).take σ.length):Bw T pr f vs σ v σ':=by
 obtain⟨e',σ1,hE,v0,js,hr,h0,h1,h2,h3,rfl⟩:=h;exact⟨F,hT,qc,.fnS hT qc hl hE hr h0 h1 h2 h3⟩
def A5b{f:Nat}{vs:List V}{v:V}{F:AF}{σ':St}(hT:T f=some F)(ht:F.thr=true)(qc:F.spec=none)(hl:vs.length=F.pars)(h:W T pr [.c F.body] (C4 0 vs) σ fun e' σ1=>∃ v0 v1 js ks,Cd e' σ1 F.res=some v0/\Ci v0=true/\Ky σ1 js v0=some v1/\Hy σ.length ks v1 (σ1.freeze js)=true/\v=v1.ren (ren σ.length ks)/\σ'=((σ1.freeze js).take σ.length++ks.filterMap ((σ1.freeze js)[·]?)).map (Ob.ren (ren σ.length ks))):Th T pr f vs σ v σ':=by
 obtain⟨e',σ1,hE,v0,v1,js,ks,hr,h0,h1,h2,rfl,rfl⟩:=h;exact⟨F,hT,ht,qc,.fnZ hT qc hl hE hr h0 h1 h2⟩
def Arf{f:Nat}{vs:List V}{v:V}{F:AF}(hT:T f=some F)(ht:F.thr=false)(qc:F.spec=none)(hl:vs.length=F.pars)(h:W T pr [.c F.body] (C4 0 vs) [] fun e' σ1=>∃ v0 js,Cd e' σ1 F.res=some v0/\Ci v0=true/\Ky σ1 js v0=some v/\v.refs=[]/\Ed [] v=some v):Fn T pr f vs v:=by
 obtain⟨e',σ1,hE,v0,js,hr,h0,h1,h2,h3⟩:=h;have:=Ev.fnS (T:=T) (pr:=pr) hT qc hl hE hr h0 h1 (by rw[h2];rfl) (fun i ob hi=>by grind);exact⟨F,hT,ht,qc,v,_,this,by grind⟩
end
variable {T:Nat->Option AF} {pr:Nat->Option (List V->Option V)}
def S.rd:S->List Nat
 | .t n=>[n]
 | .k _=>[]
def S.rdO:Option S->List Nat
 | some s=>s.rd
 | none=>[]
def AO.rd:AO->List Nat
 | .mov x | .box _ x | .load _ _ x | .chk x | .un _ x | .cvi _ x | .fad _ x | .fld _ _ _ x | .ext _ x | .len x | .lens x=>x.rd
 | .pick c a b=>c.rd++(a.rd++b.rd)
 | .new _ _ | .mmk=>[]
 | .build _ ps=>ps.flatMap fun p=>p.2.2.rd
 | .rows _ _ ps | .rowf _ _ ps | .rowo _ _ _ ps=>ps.flatMap fun p=>p.2.rd
 | .mk _ _ _ x y | .mlk _ x y=>x.rd++y.rd
 | .mup x k v=>x.rd++(k.rd++v.rd)
 | .store _ x v=>x.rd++v.rd
 | .bin _ x y | .eq _ _ x y | .iad _ x y | .iar _ _ x y | .idx x y | .ida _ _ _ x y | .app _ _ x y | .apps _ x y | .mx x y | .mn x y=>x.rd++y.rd
 | .slc _ x lo hi m3=>x.rd++(S.rdO lo++(S.rdO hi++S.rdO m3))
 | .slcs x lo hi | .slca _ _ x lo hi=>x.rd++(S.rdO lo++S.rdO hi)
 | .call _ xs=>xs.flatMap S.rd
 | .callv x xs=>x.rd++xs.flatMap S.rd
def AI.rd(i:AI):List Nat:=i.op.rd++(match i.g with
 | some (t,_)=>[t]
 | none=>[])
def Agree(e e':Env)(l:List Nat):Prop:=∀ t∈l,e.get t=e'.get t
def Agree.l{e e':Env}{a b:List Nat}(h:Agree e e' (a++b)):Agree e e' a:=fun t ht=>h t (by simp[ht])
def Agree.r{e e':Env}{a b:List Nat}(h:Agree e e' (a++b)):Agree e e' b:=fun t ht=>h t (by simp[ht])
def Cq{e e':Env}{s:S}(h:Agree e e' s.rd):Ac e s=Ac e' s:=by
 cases s with
 | t n=>exact h n (by simp[S.rd])
 | k v=>rfl
def Vi{e e':Env}{s:Option S}(h:Agree e e' (S.rdO s)):s.map (Ac e)=s.map (Ac e'):=by
 cases s with
 | none=>rfl
 | some s=>simp only[Ir];rw[Cq h]
def U3{e e':Env}:∀ {xs:List S},Agree e e' (xs.flatMap S.rd)->xs.map (Ac e)=xs.map (Ac e')
 | [],_=>rfl
 | x::xs,h=>by
  rw[Ada]at h;rw[Aw,Aw,Cq h.l,U3 h.r]
def Arg{e e':Env}{op:AO}(h:Agree e e' op.rd)(σ:St):Ad op e σ=Ad op e' σ:=by
 cases op with
 | build z ps=>
  have:(ps.map fun p=>(p.1,p.2.1,Ac e p.2.2))=ps.map fun p=>(p.1,p.2.1,Ac e' p.2.2):=by
   simp only[AO.rd]at h
   induction ps with
   | nil=>rfl
   | cons p ps ih=>
    rw[Ada]at h;rw[Aw,Aw,Cq h.l,ih h.r]
  simp only[Ad,this]
 | rows n z ps=>
  have:(ps.map fun p=>(p.1*z.length,z.length,Ac e p.2))=ps.map fun p=>(p.1*z.length,z.length,Ac e' p.2):=by
   simp only[AO.rd]at h
   induction ps with
   | nil=>rfl
   | cons p ps ih=>
    rw[Ada]at h;rw[Aw,Aw,Cq h.l,ih h.r]
  simp only[Ad,this]
 | rowf n z ps=>
  have:(ps.map fun p=>(p.1*z.length,z.length,Ac e p.2))=ps.map fun p=>(p.1*z.length,z.length,Ac e' p.2):=by
   simp only[AO.rd]at h
   induction ps with
   | nil=>rfl
   | cons p ps ih=>
    rw[Ada]at h;rw[Aw,Aw,Cq h.l,ih h.r]
  simp only[Ad,this]
 | rowo t n z ps=>
  have:(ps.map fun p=>(p.1*z.length,z.length,Ac e p.2))=ps.map fun p=>(p.1*z.length,z.length,Ac e' p.2):=by
   simp only[AO.rd]at h
   induction ps with
   | nil=>rfl
   | cons p ps ih=>
    rw[Ada]at h;rw[Aw,Aw,Cq h.l,ih h.r]
  simp only[Ad,this]
 | call f xs=>rfl
 | callv x xs=>rfl
 | new t z=>rfl
 | mmk=>rfl
 | mup x k v=>simp only[Ad,AO.rd]at h ⊢;rw[Cq h.l,Cq h.r.l,Cq h.r.r]
 | pick c a b=>simp only[Ad,AO.rd]at h ⊢;rw[Cq h.l,Cq h.r.l,Cq h.r.r]
 | slc m x lo hi mx=>simp only[Ad,AO.rd]at h ⊢;rw[Cq h.l,Vi h.r.l,Vi h.r.r.l,Vi h.r.r.r]
 | slcs x lo hi=>simp only[Ad,AO.rd]at h ⊢;rw[Cq h.l,Vi h.r.l,Vi h.r.r]
 | slca l m x lo hi=>simp only[Ad,AO.rd]at h ⊢;rw[Cq h.l,Vi h.r.l,Vi h.r.r]
 | mov x=>simp only[Ad,AO.rd]at h ⊢;rw[Cq h]
 | box t x=>simp only[Ad,AO.rd]at h ⊢;rw[Cq h]
 | load n one x=>simp only[Ad,AO.rd]at h ⊢;rw[Cq h]
 | chk x=>simp only[Ad,AO.rd]at h ⊢;rw[Cq h]
 | un o x=>simp only[Ad,AO.rd]at h ⊢;rw[Cq h]
 | cvi k x=>simp only[Ad,AO.rd]at h ⊢;rw[Cq h]
 | fad o x=>simp only[Ad,AO.rd]at h ⊢;rw[Cq h]
 | fld o n b x=>simp only[Ad,AO.rd]at h ⊢;rw[Cq h]
 | ext i x=>simp only[Ad,AO.rd]at h ⊢;rw[Cq h]
 | len x=>simp only[Ad,AO.rd]at h ⊢;rw[Cq h]
 | lens x=>simp only[Ad,AO.rd]at h ⊢;rw[Cq h]
 | store n x v=>simp only[Ad,AO.rd]at h ⊢;rw[Cq h.l,Cq h.r]
 | bin o x y=>simp only[Ad,AO.rd]at h ⊢;rw[Cq h.l,Cq h.r]
 | eq k b x y=>simp only[Ad,AO.rd]at h ⊢;rw[Cq h.l,Cq h.r]
 | iad m x y=>simp only[Ad,AO.rd]at h ⊢;rw[Cq h.l,Cq h.r]
 | iar l m x y=>simp only[Ad,AO.rd]at h ⊢;rw[Cq h.l,Cq h.r]
 | ida l m one x y=>simp only[Ad,AO.rd]at h ⊢;rw[Cq h.l,Cq h.r]
 | idx x y=>simp only[Ad,AO.rd]at h ⊢;rw[Cq h.l,Cq h.r]
 | app b m x y=>simp only[Ad,AO.rd]at h ⊢;rw[Cq h.l,Cq h.r]
 | apps t x y=>simp only[Ad,AO.rd]at h ⊢;rw[Cq h.l,Cq h.r]
 | mx x y=>simp only[Ad,AO.rd]at h ⊢;rw[Cq h.l,Cq h.r]
 | mn x y=>simp only[Ad,AO.rd]at h ⊢;rw[Cq h.l,Cq h.r]
 | mk t b z x y=>simp only[Ad,AO.rd]at h ⊢;rw[Cq h.l,Cq h.r]
 | mlk z x y=>simp only[Ad,AO.rd]at h ⊢;rw[Cq h.l,Cq h.r]
def Gc(T:Nat->Option AF)(pr:Nat->Option (List V->Option V)):AO->Nat
 | .load _ _ _=>1
 | .new _ _ | .box _ _ | .store _ _ _ | .app _ _ _ _ | .apps _ _ _ | .rowf _ _ _ | .rowo _ _ _ _ | .mk _ _ _ _ _ | .mmk | .mlk _ _ _ | .mup _ _ _ | .callv _ _=>2
 | .call f _=>match pr f with
  | some _=>0
  | none=>match T f with
   | some F=>if F.thr then 2 else 0
   | none=>2
 | _=>0
def Z5{σ σ1:St}{v:V}{x:Option V}(h:x.map (fun v=>(v,σ))=some (v,σ1)):σ1=σ/\x=some v:=by
 cases x with
 | none=>simp at h
 | some y=>grind
theorem Adp{op:AO}(h0:Gc T pr op=0){e:Env}{σ σ1:St}{v:V}(h:Ad op e σ=some (v,σ1)):σ1=σ/\∀ σ',Ad op e σ'=some (v,σ'):=by
 cases op with
 | new | box | store | app | apps | load | rowf | rowo | mk | mmk | mlk | mup | callv=>simp[Gc]at h0
 | call=>simp[Ad]at h
 | mov x=>simp only[Ad]at h ⊢;cases h;exact⟨rfl,fun _=>rfl⟩
 | pick c a b=>
  simp only[Ad]at h ⊢
  split at h
  .cases h;exact⟨rfl,fun _=>rfl⟩
  .cases h
 | build z ps=>
  simp only[Ad]at h ⊢
  cases hf:I3 z (ps.map fun p=>(p.1,p.2.1,Ac e p.2.2)) with
  | none=>rw[hf]at h;simp at h
  | some cs=>rw[hf]at h;simp at h;exact⟨h.2.symm,fun σ'=>by simp[h.1]⟩
 | rows n z ps=>
  simp only[Ad]at h ⊢
  cases hf:I3 (List.replicate n z).flatten (ps.map fun p=>(p.1*z.length,z.length,Ac e p.2)) with
  | none=>rw[hf]at h;simp at h
  | some cs=>
   rw[hf]at h;simp only[C5]at h ⊢
   split at h
   .rename_i hs;cases h;exact⟨rfl,fun σ'=>by rw[if_pos hs]⟩
   .cases h
 | slca l m x lo hi=>
  simp only[Ad]at h ⊢
  split at h
  .simp only[Ez]at h;obtain⟨p,hp,q,hq,h⟩:=h
   split at h
   .rename_i qD;cases h;exact⟨rfl,fun σ'=>by simp[hp,hq,qD]⟩
   .cases h
  .cases h
 | chk x=>
  simp only[Ad]at h ⊢
  split at h
  .cases h;exact⟨rfl,fun _=>rfl⟩
  .cases h;exact⟨rfl,fun _=>rfl⟩
  .cases h
 | bin o x y=>simp only[Ad]at h ⊢;obtain⟨h1,h2⟩:=Z5 h;exact⟨h1,fun σ'=>by rw[h2];rfl⟩
 | eq k b x y=>
  simp only[Ad]at h ⊢
  cases hf:Om k (Ac e x) (Ac e y) with
  | none=>rw[hf]at h;simp at h
  | some z=>rw[hf]at h;simp at h;exact⟨h.2.symm,fun σ'=>by simp[h.1]⟩
 | un o x=>simp only[Ad]at h ⊢;obtain⟨h1,h2⟩:=Z5 h;exact⟨h1,fun σ'=>by rw[h2];rfl⟩
 | cvi k x=>
  simp only[Ad]at h ⊢
  split at h
  .cases h;exact⟨rfl,fun _=>rfl⟩
  .cases h
 | slc m x lo hi m3=>simp only[Ad]at h ⊢;obtain⟨h1,h2⟩:=Z5 h;exact⟨h1,fun σ'=>by rw[h2];rfl⟩
 | slcs x lo hi=>simp only[Ad]at h ⊢;obtain⟨h1,h2⟩:=Z5 h;exact⟨h1,fun σ'=>by rw[h2];rfl⟩
 | fad o x=>
  simp only[Ad]at h ⊢
  split at h
  .cases h;exact⟨rfl,fun _=>rfl⟩
  .cases h;exact⟨rfl,fun _=>rfl⟩
  .cases h
 | fld o n b x=>
  simp only[Ad]at h ⊢
  split at h
  .split at h
   .rename_i qD;obtain⟨h1,h2⟩:=Z5 h;exact⟨h1,fun σ'=>by simp only[if_pos qD,h2];rfl⟩
   .cases h
  .cases h
 | iad m x i=>
  simp only[Ad]at h ⊢
  split at h
  .rename_i t xs e1
   cases hf:J6 xs (Ac e i) with
   | none=>rw[hf]at h;simp at h
   | some r=>
    rw[hf]at h;simp only[C5]at h
    split at h
    .rename_i hr;cases h;exact⟨rfl,fun σ'=>by simp[hf,hr]⟩
    .cases h
  .split at h
   .split at h
    .rename_i hc;cases h;exact⟨rfl,fun σ'=>by simp only[if_pos hc]⟩
    .cases h
   .cases h
  .cases h
 | ida l m one x i=>
  simp only[Ad]at h ⊢
  split at h
  .split at h
   .rename_i hn
    split at h
    .split at h
     .rename_i qD;simp only[Cf]at h;obtain⟨v',h,h2⟩:=h;cases h2;exact⟨rfl,fun τ=>by simp only[if_pos hn,if_pos qD,h,Ir]⟩
     .cases h
    .cases h
   .cases h
  .cases h
 | iar l m x i=>
  simp only[Ad]at h ⊢
  split at h
  .split at h
   .rename_i hn
    split at h
    .cases h;exact⟨rfl,fun _=>by simp only[if_pos hn]⟩
    .cases h;exact⟨rfl,fun _=>by simp only[if_pos hn]⟩
    .cases h
   .cases h
  .cases h
 | idx x i=>
  simp only[Ad]at h ⊢
  split at h
  .rename_i l e1
   cases hf:J6 l (Ac e i) with
   | none=>rw[hf]at h;simp at h
   | some r=>rw[hf]at h;simp at h;exact⟨h.2.symm,fun σ'=>by simp[hf,h.1]⟩
  .cases h
 | ext i x=>
  simp only[Ad]at h ⊢
  split at h
  .rename_i vs e1
   cases hf:vs[i]? with
   | none=>rw[hf]at h;simp at h
   | some r=>rw[hf]at h;simp at h;exact⟨h.2.symm,fun σ'=>by simp[hf,h.1]⟩
  .cases h
 | len x=>
  simp only[Ad]at h ⊢
  split at h
  .cases h;exact⟨rfl,fun _=>rfl⟩
  .cases h;exact⟨rfl,fun _=>rfl⟩
  .cases h;exact⟨rfl,fun _=>rfl⟩
  .cases h
 | lens x=>
  simp only[Ad]at h ⊢
  split at h
  .cases h;exact⟨rfl,fun _=>rfl⟩
  .cases h
 | mx x y=>
  simp only[Ad]at h ⊢
  split at h
  .split at h
   .rename_i hk;cases h;exact⟨rfl,fun _=>by simp only[if_pos hk]⟩
   .cases h
  .cases h
 | mn x y=>
  simp only[Ad]at h ⊢
  split at h
  .split at h
   .rename_i hk;cases h;exact⟨rfl,fun _=>by simp only[if_pos hk]⟩
   .cases h
  .cases h
theorem Aqb(σ σ':St):∀ (d:Nat) (v:V),Fe σ [] d v=Fe σ' [] d v
 | 0,_=>rfl
 | d+1,v=>by
  simp[Fe]
def A21(σ σ':St)(v:V):Gq σ [] v=Gq σ' [] v:=by
 unfold Gq
 split
 .rfl
 .rw[show Fe σ [] 9=Fe σ' [] 9 from funext (Aqb σ σ' 9)]
 grind[Aqb]
def Z6{σ:St}{args:List V}(h:Ag args=[]):Mp σ args=[]:=by
 grind[Mp,Fr]
theorem Aen{σ:St}{args:List V}(h:Ag args=[])(σ':St):Dm σ' args=Dm σ args:=by
 unfold Dm;rw[Z6 h,Z6 h,show Gq σ' []=Gq σ [] from funext (A21 σ' σ)]
theorem Xb{σ:St}{args:List V}(h:Ag args=[])(v:V):after σ args v=σ:=by
 unfold after;rw[Z6 h]
 split<;>rfl
inductive Stp (T:Nat->Option AF) (pr:Nat->Option (List V->Option V)):AI->Env->St->V->St->Prop
 | off {i:AI} {e:Env} {σ:St}:Cw e i=some false->Stp T pr i e σ .skp σ
 | val {i:AI} {e:Env} {σ σ1:St} {v:V}:Cw e i=some true->Ad i.op e σ=some (v,σ1)->Stp T pr i e σ v σ1
 | prim {d:Option Nat} {g:Option (Nat × Bool)} {f:Nat} {xs:List S} {e:Env} {σ:St} {s:List V->Option V} {vs:List V} {v:V}:Cw e ⟨d,.call f xs,g⟩=some true->pr f=some s->Ag (xs.map (Ac e))=[] ->
   Dm [] (xs.map (Ac e))=some vs->s vs=some v->Stp T pr ⟨d,.call f xs,g⟩ e σ v σ
 | pure {d:Option Nat} {g:Option (Nat × Bool)} {f:Nat} {xs:List S} {e:Env} {σ:St} {vs:List V} {v:V}:Cw e ⟨d,.call f xs,g⟩=some true->Ag (xs.map (Ac e))=[] ->
   Dm [] (xs.map (Ac e))=some vs->Fn T pr f vs v->Stp T pr ⟨d,.call f xs,g⟩ e σ v σ
 | thr {d:Option Nat} {g:Option (Nat × Bool)} {f:Nat} {xs:List S} {e:Env} {σ σ1:St} {F:AF} {v:V}:Cw e ⟨d,.call f xs,g⟩=some true->T f=some F->F.thr=true->F.spec=none->pr f=none ->
   Ev T pr (.fn f (xs.map (Ac e)) σ v σ1)->Stp T pr ⟨d,.call f xs,g⟩ e σ v σ1
 | spec {d:Option Nat} {g:Option (Nat × Bool)} {f:Nat} {xs:List S} {e:Env} {σ σ1:St} {F:AF} {s:List V->St->Option (V × St)} {v:V}:Cw e ⟨d,.call f xs,g⟩=some true->T f=some F->F.thr=true->F.spec=some s->pr f=none ->
   s (xs.map (Ac e)) σ=some (v,σ1)->Stp T pr ⟨d,.call f xs,g⟩ e σ v σ1
 | vprim {d:Option Nat} {g:Option (Nat × Bool)} {f:Nat} {x:S} {xs:List S} {args:List V} {e:Env} {σ:St} {s:List V->Option V} {vs:List V} {v:V}:Cw e ⟨d,.callv x xs,g⟩=some true->Ck e (.callv x xs)=some (f,args)->pr f=some s ->
   Dm σ args=some vs->s vs=some v->Stp T pr ⟨d,.callv x xs,g⟩ e σ v (after σ args v)
 | vpure {d:Option Nat} {g:Option (Nat × Bool)} {f:Nat} {x:S} {xs:List S} {args:List V} {e:Env} {σ:St} {vs:List V} {v:V}:Cw e ⟨d,.callv x xs,g⟩=some true->Ck e (.callv x xs)=some (f,args) ->
   Dm σ args=some vs->Fn T pr f vs v->Stp T pr ⟨d,.callv x xs,g⟩ e σ v (after σ args v)
 | vthr {d:Option Nat} {g:Option (Nat × Bool)} {f:Nat} {x:S} {xs:List S} {args:List V} {e:Env} {σ σ1:St} {F:AF} {v:V}:Cw e ⟨d,.callv x xs,g⟩=some true->Ck e (.callv x xs)=some (f,args)->T f=some F->F.thr=true->F.spec=none ->
   Ev T pr (.fn f args σ v σ1)->Stp T pr ⟨d,.callv x xs,g⟩ e σ v σ1
def Stp.ev{i:AI}{l:List AI}{e e':Env}{σ σ1 σ':St}{v:V}(h:Stp T pr i e σ v σ1)(g:Ev T pr (.ops l (e.putO i.dst v) σ1 e' σ')):Ev T pr (.ops (i::l) e σ e' σ'):=by
 cases h with
 | off hw=>exact .opsSkip hw g
 | val hw hv=>exact .opsVal hw hv g
 | prim hw hp hn hx hs=>exact .opsPrim hw rfl hp ((Aen hn _).trans hx) hs (by rw[Xb hn];exact g)
 | pure hw hn hx hf=>
  obtain⟨F,h1,h2,qc,v0,σ0,h3,h4⟩:=hf;exact .opsPure hw rfl h1 h2 qc ((Aen hn _).trans hx) h3 h4 (by rw[Xb hn];exact g)
 | thr hw h1 h2 qc _ h3=>exact .opsThr hw rfl h1 h2 qc h3 g
 | spec hw h1 h2 qc _ h3=>exact .opsSpec hw rfl h1 h2 qc h3 g
 | vprim hw hc hp hx hs=>exact .opsPrim hw hc hp hx hs g
 | vpure hw hc hx hf=>
  obtain⟨F,h1,h2,qc,v0,σ0,h3,h4⟩:=hf;exact .opsPure hw hc h1 h2 qc hx h3 h4 g
 | vthr hw hc h1 h2 qc h3=>exact .opsThr hw hc h1 h2 qc h3 g
def Apq{e e':Env}{i:AI}(h:Agree e e' i.rd):Cw e i=Cw e' i:=by
 unfold Cw
 cases hg:i.g with
 | none=>rfl
 | some p=>
  obtain⟨t,b⟩:=p;have:=h t (by grind[AI.rd])
  grind
def Adj{e e':Env}{x:S}{xs:List S}(h:Agree e e' (AO.callv x xs).rd):Ck e (.callv x xs)=Ck e' (.callv x xs):=by
 have h':Agree e e' (x.rd++xs.flatMap S.rd):=h;simp only[Ck];rw[Cq h'.l,U3 h'.r]
def Stp.move{i:AI}{e e':Env}{σ σ1:St}{v:V}(h:Stp T pr i e σ v σ1)(ha:Agree e e' i.rd):
  Stp T pr i e' σ v σ1/\(Gc T pr i.op≠2->σ1=σ)/\(Gc T pr i.op=0->∀ σ',Stp T pr i e' σ' v σ') /\
  (∀ n one x,i.op=.load n one x->∀ σ',I4 σ' n one (Ac e x)=I4 σ n one (Ac e x)->Stp T pr i e' σ' v σ'):=by
 have hw:=Apq ha
 cases h with
 | off h=>exact⟨.off (hw ▸ h),fun _=>rfl,fun _ σ'=>.off (hw ▸ h),fun _ _ _ _ σ' _=>.off (hw ▸ h)⟩
 | val h hv=>
  have he:=Arg (op:=i.op) ha.l;refine⟨.val (hw ▸ h) (he σ ▸ hv),fun hc=>?_,fun hc σ'=>?_,fun n one x qk σ' hl=>?_⟩
  .by_cases h0:Gc T pr i.op=0
   .grind[Adp]
   .cases qk:i.op with
    | load n one x=>
     grind[Ad,Option.map_eq_some_iff]
    | _=>grind[Gc]
  .exact .val (hw ▸ h) (he σ' ▸ (Adp hc hv).2 σ')
  .refine .val (hw ▸ h) (he σ' ▸ ?_);rw[qk]at hv ⊢;simp only[Ad]at hv ⊢;rw[hl]
   cases qF:I4 σ n one (Ac e x) with
   | none=>grind
   | some y=>grind
 | prim h hp hn hx hs=>
  have hm:=U3 (xs:=_) (show Agree e e' _ from ha.l);rw[hm]at hx hn;exact⟨.prim (hw ▸ h) hp hn hx hs,fun _=>rfl,fun _ σ'=>.prim (hw ▸ h) hp hn hx hs,fun _ _ _ qk=>by cases qk⟩
 | pure h hn hx hf=>
  have hm:=U3 (xs:=_) (show Agree e e' _ from ha.l);rw[hm]at hx hn;exact⟨.pure (hw ▸ h) hn hx hf,fun _=>rfl,fun _ σ'=>.pure (hw ▸ h) hn hx hf,fun _ _ _ qk=>by cases qk⟩
 | spec h h1 h2 qc hp h3=>
  have hm:=U3 (xs:=_) (show Agree e e' _ from ha.l);rw[hm]at h3;refine⟨.spec (hw ▸ h) h1 h2 qc hp h3,fun hc=>?_,fun hc=>?_,fun _ _ _ qk=>by cases qk⟩
  .grind[Gc]
  grind[Gc]
 | thr h h1 h2 qc hp h3=>
  have hm:=U3 (xs:=_) (show Agree e e' _ from ha.l);rw[hm]at h3;refine⟨.thr (hw ▸ h) h1 h2 qc hp h3,fun hc=>?_,fun hc=>?_,fun _ _ _ qk=>by cases qk⟩
  .grind[Gc]
  grind[Gc]
 | vprim h hc hp hx hs=>exact⟨.vprim (hw ▸ h) (by rw[<-Adj ha.l];exact hc) hp hx hs,fun hc=>by grind[Gc],fun hc=>by grind[Gc],fun _ _ _ qk=>by cases qk⟩
 | vpure h hc hx hf=>exact⟨.vpure (hw ▸ h) (by rw[<-Adj ha.l];exact hc) hx hf,fun hc=>by grind[Gc],fun hc=>by grind[Gc],fun _ _ _ qk=>by cases qk⟩
 | vthr h hc h1 h2 qc h3=>exact⟨.vthr (hw ▸ h) (by rw[<-Adj ha.l];exact hc) h1 h2 qc h3,fun hc=>by grind[Gc],fun hc=>by grind[Gc],fun _ _ _ qk=>by cases qk⟩
variable {T:Nat->Option AF} {pr:Nat->Option (List V->Option V)}
def Ew(qa:List (List Nat)):Nat->Nat->Nat->Bool
 | 0,_,_=>false
 | f+1,j,i=>(qa.getD j []).any fun d=>d==i||Ew qa f d i
def Bmh(T:Nat->Option AF)(pr:Nat->Option (List V->Option V))(x y:AI):Bool:=
 (match x.dst with
  | some d=>!y.rd.elem d&&!(y.dst==some d)
  | none=>true)&&((match y.dst with
  | some d=>!x.rd.elem d
  | none=>true)&&!(Gc T pr x.op==2&&Gc T pr y.op==2))
def Bcq(T:Nat->Option AF)(pr:Nat->Option (List V->Option V))(qa:List (List Nat))(ops:List AI):Bool:=
 qa.length==ops.length&&(List.range ops.length).all fun j=>((qa.getD j []).all fun d=>decide (d<j))&&(List.range j).all fun i=>Ew qa ops.length j i||(match ops[i]?,ops[j]? with
  | some x,some y=>Bmh T pr x y
  | _,_=>false)
variable {T:Nat->Option AF} {pr:Nat->Option (List V->Option V)}
def Arh:∀ (n:Nat) (l:List Nat),l.Nodup->(∀ x∈l,x<n)->l.length<=n
 | 0,[],_,_=>Aj _
 | 0,x::_,_,h=>absurd (h x AE) AA
 | n+1,l,hn,h=>by
  have h1:=Arh n (l.erase n) (hn.erase n) (fun x hx=>by
   grind)
  grind
def Adw:∀ (n:Nat) (l:List Nat),(∀ j,j<n->j∈l)->n<=l.length
 | 0,_,_=>Ax _
 | n+1,l,h=>by
  have h1:=Adw n (l.erase n) (fun j hj=>(List.mem_erase_of_ne AA).2 (h j AA))
  grind
def Ayb{n:Nat}{l:List Nat}(hn:l.Nodup)(h:∀ x∈l,x<n)(hl:l.length=n){j:Nat}(hj:j<n):j∈l:=by
 rcases Classical.em (j∈l) with h' | h'
 .exact h'
 .have:=Arh n (j::l) (Zh.2 ⟨h',hn⟩) (fun x hx=>by
   grind)
  grind
def Pc(qa:List (List Nat)):Nat->Nat->List Nat->List Nat
 | 0,_,_=>[]
 | fuel+1,t,qe=>
  match ((List.range qa.length).filter (Nc qa qe))[t % ((List.range qa.length).filter (Nc qa qe)).length]? with
  | some i=>i::Pc qa fuel (t / ((List.range qa.length).filter (Nc qa qe)).length) (i::qe)
  | none=>[]
theorem Ake(qa:List (List Nat)):∀ (fuel t:Nat) (qe:List Nat),Qo qa fuel t qe=qe.reverse++Pc qa fuel t qe
 | 0,_,qe=>by simp[Qo,Pc]
 | fuel+1,t,qe=>by
  unfold Qo Pc;simp only
  split
  .rename_i i hi;rw[Ake qa fuel _ (i::qe),hi];simp
  grind
section
variable {qa:List (List Nat)} {ops:List AI} {e e1:Env} {σ σ1:St} {jj:Nat->Env} {st:Nat->St} {val:Nat->V}
def DC(qa:List (List Nat))(qe:List Nat):Prop:=∀ j∈qe,∀ d∈qa.getD j [],d∈qe
theorem S6{qe:List Nat}(h:DC qa qe):∀ (f j i:Nat),Ew qa f j i=true->j∈qe->i∈qe
 | 0,_,_,hb,_=>by grind[Ew]
 | f+1,j,i,hb,hj=>by
  simp only[Ew,Ns,Ov,beq_iff_eq]at hb;obtain⟨d,hd,hb⟩:=hb;have qL:=h j hj d hd;rcases hb with rfl | hb
  .exact qL
  .exact S6 h f d i hb qL
theorem Ad5{qe:List Nat}(h:DC qa qe){f j i:Nat}(hr:∀ d∈qa.getD j [],d∈qe)(hb:Ew qa f j i=true):i∈qe:=by
 cases f with
 | zero=>grind[Ew]
 | succ f=>
  simp only[Ew,Ns,Ov,beq_iff_eq]at hb;obtain⟨d,hd,hb⟩:=hb;rcases hb with rfl | hb
  .grind
  grind[S6]
def Pf(ops:List AI)(j:Nat):Option Nat:=(ops[j]?).bind (·.dst)
def EnvOK(ops:List AI)(val:Nat->V)(e:Env)(M:Nat->Prop)(E:Env):Prop:=
 ∀ t,(∃ j,M j/\Pf ops j=some t/\(∀ j',M j'->Pf ops j'=some t->j'<=j)/\E.get t=val j)\/((∀ j,M j->Pf ops j≠some t)/\E.get t=e.get t)
def EnvOK.put{M:Nat->Prop}{E:Env}{i:Nat}{x:AI}(h:EnvOK ops val e M E)(hx:ops[i]?=some x)(qq:∀ j t,M j->x.dst=some t->Pf ops j=some t->j<i):EnvOK ops val e (fun j=>j=i\/M j) (E.putO x.dst (val i)):=by
 intro t;have jk:Pf ops i=x.dst:=by simp[Pf,hx]
 cases hd:x.dst with
 | none=>
  simp only[Env.putO];rcases h t with⟨j,h1,h2,h3,h4⟩ | ⟨h1,h2⟩
  .grind
  grind
 | some d=>
  simp only[Env.putO];rw[Env.get_put];by_cases qW:d=t
  .grind
  .rw[if_neg qW];rcases h t with⟨j,h1,h2,h3,h4⟩ | ⟨h1,h2⟩
   .grind
   grind
def EnvOK.same{M M':Nat->Prop}{E E':Env}(h:EnvOK ops val e M E)(h':EnvOK ops val e M' E'){t:Nat}(ht:∀ j,Pf ops j=some t->(M j↔M' j)):E.get t=E'.get t:=by
 rcases h t with⟨j,h1,h2,h3,h4⟩ | ⟨h1,h2⟩
 .rcases h' t with⟨k,k1,k2,k3,k4⟩ | ⟨k1,k2⟩
  .grind
  grind
 .rcases h' t with⟨k,k1,k2,k3,k4⟩ | ⟨k1,k2⟩
  .grind
  grind
def EnvOK.iff{M M':Nat->Prop}{E:Env}(h:EnvOK ops val e M E)(hm:∀ j,M j↔M' j):EnvOK ops val e M' E:=by
 have:M=M':=funext fun j=>propext (hm j)
 grind
end
variable {T:Nat->Option AF} {pr:Nat->Option (List V->Option V)}
def rwB(T:Nat->Option AF)(pr:Nat->Option (List V->Option V))(x y:AI):Bool:=!((Gc T pr x.op==1&&Gc T pr y.op==2)||(Gc T pr x.op==2&&Gc T pr y.op==1))
def Bmi(T:Nat->Option AF)(pr:Nat->Option (List V->Option V))(qa:List (List Nat))(ops:List AI):Bool:=
 Bcq T pr qa ops&&(List.range ops.length).all fun j=>(List.range j).all fun i=>Ew qa ops.length j i||(match ops[i]?,ops[j]? with
  | some x,some y=>rwB T pr x y
  | _,_=>false)
section
variable {Q:Env->St->Prop} {e:Env} {σ:St}
end
variable {T:Nat->Option AF} {pr:Nat->Option (List V->Option V)}
abbrev Mq:=List It->Env->St->Option (Env × St)
abbrev R8:=Nat->List V->St->Option (V × St)
def A06(F:AF)(n:Nat)(p:Env × St):Option (V × St):=(Cd p.1 p.2 F.res).bind fun v=>leave n v p.2
def Lp(rc:Mq)(F:AF)(vs:List V)(σ:St):Option (V × St):=
 if vs.length=F.pars then(rc [.c F.body] (C4 0 vs) σ).bind (A06 F σ.length) else none
def Abt(rc:Mq)(F:AF)(args:List V)(σ:St):Option (V × St):=
 (Dm σ args).bind fun ws=>(Lp rc F ws []).bind fun p=>(Ed p.2 p.1).map fun v=>(v,after σ args v)
def Pg(T:Nat->Option AF)(pr:Nat->Option (List V->Option V))(rc:Mq)(qb:Bool):R8:=fun f args σ=>
 match pr f with
 | some s=>if qb&&!(Ag args).isEmpty then none else(Dm σ args).bind fun ws=>(s ws).map fun v=>(v,after σ args v)
 | none=>match T f with
  | none=>none
  | some F=>match F.thr,F.spec with
   | true,some s=>s args σ
   | true,none=>Lp rc F args σ
   | false,none=>if qb&&!(Ag args).isEmpty then none else Abt rc F args σ
   | false,some _=>none
def Av1:AO->Bool
 | .callv _ _=>true
 | _=>false
def Aba:AO->Bool
 | .call _ _ | .callv _ _=>true
 | _=>false
def Wi(rf:Bool->R8)(qb:Bool)(op:AO)(e:Env)(σ:St):Option (V × St):=
 if Aba op then(if qb&&Av1 op then none else(Ck e op).bind fun p=>rf qb p.1 p.2 σ) else Ad op e σ
def Un(rf:Bool->R8)(qb:Bool):List AI->Env->St->Option (Env × St)
 | [],e,σ=>some (e,σ)
 | i::l,e,σ=>match Cw e i with
  | some true=>(Wi rf qb i.op e σ).bind fun p=>Un rf qb l (e.putO i.dst p.1) p.2
  | some false=>Un rf qb l (e.putO i.dst .skp) σ
  | none=>none
def Az5:V->Option Bool
 | .bool b=>some b
 | _=>none
/-! more steps give no other result -/
def LeC(a b:Mq):Prop:=∀ k e σ r,a k e σ=some r->b k e σ=some r
def LeF(a b:Bool->R8):Prop:=∀ s f vs σ r,a s f vs σ=some r->b s f vs σ=some r
def LeC.body{a b:Mq}(h:LeC a b){F:AF}{vs:List V}{σ:St}{r:V × St}(hr:Lp a F vs σ=some r):Lp b F vs σ=some r:=by
 unfold Lp at hr ⊢
 split at hr
 .rename_i hl;rw[if_pos hl];obtain⟨p,hp,hr⟩:=Ez.1 hr;rw[h _ _ _ _ hp];exact hr
 grind
def LeC.pure{a b:Mq}(h:LeC a b){F:AF}{vs:List V}{σ:St}{r:V × St}(hr:Abt a F vs σ=some r):Abt b F vs σ=some r:=by
 unfold Abt at hr ⊢;obtain⟨ws,hw,hr⟩:=Ez.1 hr;obtain⟨p,hp,hr⟩:=Ez.1 hr;rw[hw,C5,h.body hp];exact hr
def LeC.call{a b:Mq}(h:LeC a b):LeF (Pg T pr a) (Pg T pr b):=by
 intro s f vs σ r hr;unfold Pg at hr ⊢
 split at hr
 .exact hr
 .split at hr
  .cases hr
  .split at hr
   .exact hr
   .exact h.body hr
   .split at hr
    .cases hr
    .rename_i hs;rw[if_neg hs];exact h.pure hr
   omega
def LeF.op{a b:Bool->R8}(h:LeF a b){s:Bool}{op:AO}{e:Env}{σ:St}{r:V × St}(hr:Wi a s op e σ=some r):Wi b s op e σ=some r:=by
 unfold Wi at hr ⊢
 split at hr
 .rename_i hc;rw[if_pos hc]
  split at hr
  .cases hr
  .rename_i hs;rw[if_neg hs];obtain⟨p,hp,hr⟩:=Ez.1 hr;rw[hp,C5];exact h _ _ _ _ _ hr
 grind
def LeF.ops{a b:Bool->R8}(h:LeF a b){s:Bool}:∀ {l:List AI} {e:Env} {σ:St} {r:Env × St},Un a s l e σ=some r->Un b s l e σ=some r
 | [],_,_,_,hr=>hr
 | i::l,e,σ,r,hr=>by
  unfold Un at hr ⊢
  split at hr
  .obtain⟨p,hp,hr⟩:=Ez.1 hr;rw[h.op hp];exact h.ops hr
  .exact h.ops hr
  omega
/-! what the function gives comes of the code -/
def V1(T:Nat->Option AF)(pr:Nat->Option (List V->Option V)):AC->Bool
 | .drw _ qa ops=>Bmi T pr qa ops
 | .seq a b=>V1 T pr a&&V1 T pr b
 | .cond _ _ a b=>V1 T pr a&&V1 T pr b
 | .blk _ c=>V1 T pr c
 | .loop _ c=>V1 T pr c
 | _=>true
section
variable (qQ:∀ f F,T f=some F->F.spec=none->V1 T pr F.body=true)
def A8h{n:Nat}{v v':V}{σ1 σ':St}(h:leave n v σ1=some (v',σ')):(Ci v=true/\El n [] v.refs=true/\(∀ i ob,i<n->σ1[i]?=some ob->El n [] ob.refs=true)/\v'=v/\σ'=σ1.take n)\/∃ js,Hy n js v σ1=true/\v'=v.ren (ren n js)/\σ'=(σ1.take n++js.filterMap (σ1[·]?)).map (Ob.ren (ren n js)):=by
 unfold leave at h
 split at h
 .rename_i hn;cases h;unfold Aq2 at hn;simp only[Ai,Bu]at hn;exact .inl ⟨hn.1,hn.2.1,fun i ob hi ho=>hn.2.2 ob (F7 (by rw[Wv,if_pos hi];exact ho)),rfl,rfl⟩
 grind
inductive CallR (T:Nat->Option AF) (pr:Nat->Option (List V->Option V)) (qb:Bool) (f:Nat) (args:List V) (σ:St):V->St->Prop
 | prim {s:List V->Option V} {ws:List V} {v:V}:pr f=some s->(qb=true->Ag args=[])->Dm σ args=some ws->s ws=some v->CallR T pr qb f args σ v (after σ args v)
 | pure {ws:List V} {v:V}:(qb=true->Ag args=[])->Dm σ args=some ws->Fn T pr f ws v->CallR T pr qb f args σ v (after σ args v)
 | thr {F:AF} {v:V} {σ1:St}:pr f=none->T f=some F->F.thr=true->F.spec=none->Ev T pr (.fn f args σ v σ1)->CallR T pr qb f args σ v σ1
 | spec {F:AF} {s:List V->St->Option (V × St)} {v:V} {σ1:St}:pr f=none->T f=some F->F.thr=true->F.spec=some s->s args σ=some (v,σ1)->CallR T pr qb f args σ v σ1
def Av2{rf:Bool->R8}{s:Bool}{op:AO}{e:Env}{σ:St}{r:V × St}(h:Wi rf s op e σ=some r):(Aba op=false/\Ad op e σ=some r)\/∃ f args,Ck e op=some (f,args)/\rf s f args σ=some r/\(s=true->∃ xs,op=.call f xs/\args=xs.map (Ac e)):=by
 unfold Wi at h
 split at h
 .rename_i hc
  split at h
  .cases h
  .rename_i hs;obtain⟨⟨f,args⟩,hp,h⟩:=Ez.1 h;refine .inr ⟨f,args,hp,h,fun qQ=>?_⟩;subst qQ
   cases op with
   | call f' xs=>
    simp only[Ck]at hp
    grind
   | callv x xs=>grind[Av1]
   | _=>grind[Aba]
 grind
end
