/- THE PLAIN MACHINE, joined texts: Kr Kt Ks Ku Kv Kw Kx. -/
import Derived.Test.YthlbbjcbmojocacGreatDoorA2
import Derived.Scope
set_option linter.all false
/- THE PLAIN MACHINE IS RIGHT: the theorem. -/
namespace Go.Proofs.YthlbbjcbmojocacGreatDoor.KM
open Go Go.RowKit
variable {P:Program} {G:List (Nat × List V)} {T:Nat->Option AF} {pr:Nat->Option (List V->Option V)}
def Apd{n:Nat}{ops:Array Oper}:∀ (qi:List AI) (os:List Oper) (k:Nat),K8 P G n ops qi os=true->ops.toList.drop k=os->ML P G n ops qi (List.range' k os.length)
 | [],[],_,_,_=>trivial
 | i::qi,o::os,k,h,hd=>by
  simp only[K8,Af]at h
  have hk:ops[k]?=some o:=by
   have:(ops.toList.drop k)[0]?=some o:=by rw[hd];rfl
   simpa using this
  refine⟨⟨o,hk,h.1⟩,Apd qi os (k+1) h.2 ?_⟩;rw[<-Pd,hd];rfl
 | [],_::_,_,h,_=>by simp[K8]at h
 | _::_,[],_,h,_=>by simp[K8]at h
def Ano{n:Nat}{ops:Array Oper}:∀ {qi:List AI} {os:List Oper},K8 P G n ops qi os=true->qi.length=os.length/\∀ (i:Nat) (o:Oper),os[i]?=some o->∃ ai,qi[i]?=some ai/\W5 P G n ops ai o=true
 | [],[],_=>⟨rfl,fun i o h=>by simp at h⟩
 | a::qi,o::os,h=>by
  simp only[K8,Af]at h;obtain⟨l,g⟩:=Ano h.2;refine⟨by simp[l],fun i o' ho=>?_⟩
  cases i with
  | zero=>simp at ho;subst ho;exact⟨a,rfl,h.1⟩
  | succ i=>simpa using g i o' (by simpa using ho)
 | [],_::_,h=>by simp[K8]at h
 | _::_,[],h=>by simp[K8]at h
def Arn{n:Nat}{ops:Array Oper}{qi:List AI}(h:K8 P G n ops qi ops.toList=true):∀ (L:List Nat),(∀ i∈L,i<ops.size)->ML P G n ops (Dt qi L) L
 | [],_=>trivial
 | j::L,hL=>by
  have hj:=hL j (by simp);obtain⟨ai,h1,h2⟩:=(Ano h).2 j ops[j] (by simp[hj]);unfold Dt;rw[Jm,h1];exact⟨⟨ops[j],Array.getElem?_eq_getElem hj,h2⟩,Arn h L (fun i hi=>hL i (by simp[hi]))⟩
def Atb(qa:List (List Nat)):∀ (fuel t:Nat) (qe:List Nat),(∀ i∈qe,i<qa.length)->∀ i∈Ot qa fuel t qe,i<qa.length
 | 0,_,qe,h=>fun i hi=>h i (by simpa[Ot] using hi)
 | fuel+1,t,qe,h=>by
  intro i hi;unfold Ot at hi;simp only at hi
  split at hi
  .rename_i j hj;refine Atb qa fuel _ (j::qe) (fun k hk=>?_) i hi;rcases Bj.1 hk with rfl | hk
   .have:=(Pc.1 (Ge hj)).1;simpa using this
   .exact h k hk
  .exact h i (by simpa using hi)
def Amq:∀ (vs:List V) (k n:Nat),(Dd k vs).get n=if k<=n then vs.getD (n - k) .und else .und
 | [],k,n=>by simp[Dd,Env.get]
 | v::vs,k,n=>by
  simp only[Dd,Env.get];by_cases h:k=n
  .subst h;simp
  .rw[if_neg h,Amq vs (k+1) n];by_cases h2:k+1<=n
   .rw[if_pos h2,if_pos (by omega)];rw[show n - k=(n - (k+1))+1 by omega];simp
   .rw[if_neg h2];rw[if_neg (by omega)]
section
variable {n:Nat} {c:Code}
def A1y(h:Dz P G n .skip c=true):c=.skip\/∃ l,c=.label l:=by
 cases c<;>simp[Dz]at h
 .exact .inl rfl
 .exact .inr ⟨_,rfl⟩
def Azk{b:Frame}{a:Act}{k:List Item}{cs:List Frame}{w:World}(h:c=.skip\/∃ l,c=.label l):step P (lone (b.at a (.code c::k)) cs w)=.next (lone (b.at a k) cs w):=by
 rcases h with rfl | ⟨l,rfl⟩
 .exact step_skip
 .exact step_label
def A5r{kill:List Nat}{qi:List AI}(h:Dz P G n (.reg kill qi) c=true):∃ id ops,c=.region id ops false/\K8 P G n ops qi ops.toList=true:=by
 cases c with
 | region id ops d=>
  cases d with
  | false=>exact⟨id,ops,rfl,h⟩
  | true=>cases h
 | _=>cases h
def A5s{kill:List Nat}{qa:List (List Nat)}{qi:List AI}(h:Dz P G n (.drw kill qa qi) c=true):∃ id ops,c=.region id ops true/\K8 P G n ops qi ops.toList=true/\Pr qa ops.toList=true/\P.follows .mixedOrders=true:=by
 cases c with
 | region id ops d=>
  cases d with
  | false=>cases h
  | true=>
   simp only[Dz,Af]at h;exact⟨id,ops,rfl,h⟩
 | _=>cases h
def A5t{x y:AC}(h:Dz P G n (.seq x y) c=true):∃ c1 c2,c=.seq c1 c2/\Dz P G n x c1=true/\Dz P G n y c2=true:=by
 cases c<;>simp[Dz]at h
 exact⟨_,_,rfl,h⟩
def A5u{s:S}{e:Env}{z:Bool}(h:Aku s=true)(hc:Ab e s=.bool z):False:=by
 unfold Aku at h
 split at h
 .simp[Ab]at hc
 .cases h
def A1z{s:S}{kill:List Nat}{x y:AC}{e:Env}{z:Bool}(hc:Ab e s=.bool z)(h:Dz P G n (.cond s kill x y) c=true):∃ o c1 c2,c=.cond o c1 c2/\B0 G s o=true/\Dz P G n x c1=true/\Dz P G n y c2=true:=by
 cases c<;>simp[Dz]at h
 case cond=>exact⟨_,_,_,rfl,h⟩
 all_goals exact(A5u h hc).elim
def A5v{id:Nat}{x:AC}(h:Dz P G n (.blk id x) c=true):(∃ c1,c=.block id c1/\Dz P G n x c1=true)\/∃ c1,c=.scope c1/\1000000<=id/\Dz P G n x c1=true:=by
 cases c<;>simp[Dz]at h
 .obtain⟨rfl,h⟩:=h;exact .inl ⟨_,rfl,h⟩
 .exact .inr ⟨_,rfl,h⟩
def A11{keep:List Nat}{x:AC}(h:Dz P G n (.loop keep x) c=true):∃ c1,c=.loop c1/\Dz P G n x c1=true:=by
 cases c<;>simp[Dz]at h
 exact⟨_,rfl,h⟩
def A12{id:Nat}(h:Dz P G n (.exit id) c=true):c=.exit id/\id<1000000:=by
 cases c<;>simp[Dz]at h
 obtain⟨rfl,h⟩:=h;exact⟨rfl,h⟩
def A5w(h:Dz P G n .ret c=true):c=.ret:=by cases c<;>simp[Dz]at h;rfl
end
def Ext.len{N:Nat}{γ γ':Gh}{σ σ':St}{w w':World}(hI:Inv G N γ σ w)(h:Inv G N γ' σ' w')(hx:Ext γ w γ' w'):σ.length<=σ'.length:=by
 rw[<-hI.len,<-h.len];rcases Sj γ.O.length with h0 | h0
 .omega
 .obtain⟨b1,g1,h1,_⟩:=hx.obj (γ.O.length - 1) (γ.O[γ.O.length - 1]'(by omega)).1 (γ.O[γ.O.length - 1]'(by omega)).2 (Bc _);have:=(Ak.1 h1).1;omega
def Anp{N:Nat}{γ γ':Gh}{σ:St}{w w':World}{X:List (Nat × Nat)}(hI:Inv G N γ σ w)(hx:Ext γ w γ' w'):Ext γ w ⟨γ'.κ,γ'.O.take σ.length++X⟩ w':=
 ⟨hx.kap,hx.cell,fun i blk g hi=>by
  obtain⟨b1,g1,h1,h2,h3⟩:=hx.obj i blk g hi;have jc:i<σ.length:=by rw[<-hI.len];exact(Ak.1 hi).1
  refine⟨b1,g1,?_,h2,h3⟩;show(γ'.O.take σ.length++X)[i]?=_;rw[B6 (by have:=(Ak.1 h1).1;simp;omega),F5,if_pos jc]
  exact h1⟩
def Abm{n:Nat}{js is:List Nat}(h:E4 n js is=true):∀ i∈is,i<n\/i∈js:=fun i hi=>by
 have:=Bp.1 h i hi;simp only[Il,decide_eq_true_eq,H1]at this;exact this
def Anq{N:Nat}{γ γ':Gh}{σ σ':St}{w w':World}{v:V}{u:Value}(hI:Inv G N γ σ w)(h:Inv G N γ' σ' w')(hx:Ext γ w γ' w')(hv:E4 σ.length [] v.refs=true)
  (hb:∀ i ob,i<σ.length->σ'[i]?=some ob->σ[i]?=some ob\/E4 σ.length [] ob.refs=true) (hr:RepV γ' w' v u) :
  ∃ γ2,RepV γ2 w' v u/\Inv G N γ2 (σ'.take σ.length) w'/\Ext γ w γ2 w'/\∀ b,γ2.κ b=γ'.κ b:=by
 obtain⟨i1,i2⟩:=h.leave (n:=σ.length) (js:=[]) (ρ:=fun i=>i) (Ext.len hI h hx) (fun i hi=>by cases hi) U3 (fun _ _=>rfl) (fun k hk=>by simp at hk) (fun i ob hi ho j hj=>by
  rcases hi with hi | hi
  .rcases hb i ob hi ho with h1 | h1
   .obtain⟨p,_,qd⟩:=hI.of h1;exact .inl (by rw[<-hI.len];exact qd.refs_lt j hj)
   .exact Abm h1 j hj
  .cases hi)
 have e1:(σ'.take σ.length++([]:List Nat).filterMap (σ'[·]?)).map (Ob.ren fun i=>i)=σ'.take σ.length:=by
  simp only[Sk,B3];have:(Ob.ren fun i=>i)=id:=funext Ann;rw[this,List.map_id]
 rw[e1]at i1;have qV:=hr.renum (O:=γ'.O.take σ.length++([]:List Nat).filterMap (γ'.O[·]?)) (ρ:=fun i=>i) (fun i hi p hp=>i2 i (Abm hv i hi) p hp);rw[Ai0]at qV;exact⟨_,qV,i1,Anp hI hx,fun _=>rfl⟩
def Anr{N:Nat}{γ γ':Gh}{σ σ':St}{w w':World}{v:V}{u:Value}{js:List Nat}(hI:Inv G N γ σ w)(h:Inv G N γ' σ' w')(hx:Ext γ w γ' w')(hl:H2 σ.length js v σ'=true)(hr:RepV γ' w' v u):
  ∃ γ2,RepV γ2 w' (v.ren (ren σ.length js)) u/\Inv G N γ2 ((σ'.take σ.length++js.filterMap (σ'[·]?)).map (Ob.ren (ren σ.length js))) w'/\Ext γ w γ2 w'/\∀ b,γ2.κ b=γ'.κ b:=by
 unfold H2 at hl;simp only[Af,decide_eq_true_eq,Bp]at hl;obtain⟨_,hv,qO,qT,qS⟩:=hl
 obtain⟨i1,i2⟩:=h.leave (n:=σ.length) (js:=js) (ρ:=ren σ.length js) (Ext.len hI h hx) qS qT (fun i hi=>by simp[ren,hi]) (fun k hk=>by
  have jq:=(qS js[k] (Fy hk)).1;unfold ren;rw[if_neg (by omega)];congr 1;have hf:js.findIdx (·==js[k])<js.length:=List.findIdx_lt_length_of_exists ⟨js[k],Fy hk,by simp⟩;have hg:=List.findIdx_getElem (w:=hf);have jb:js[js.findIdx (·==js[k])]=js[k]:=by simpa using hg
  exact Anh qT (Bc hf) (by rw[jb];exact Bc hk)) (fun i ob hi ho j hj=>by
  refine Abm (qO ob ?_) j hj;rw[B8];rcases hi with hi | hi
  .exact .inl (Ge (by rw[F5,if_pos hi];exact ho))
  .exact .inr (Aft.2 ⟨i,hi,ho⟩))
 exact⟨_,hr.renum (fun i hi p hp=>i2 i (Abm hv i hi) p hp),i1,Anp hI hx,fun _=>rfl⟩
def Pe:∀ (js:List Nat) (σ:St),(σ.freeze js).length=σ.length
 | [],_=>rfl
 | i::js,σ=>by
  simp only[St.freeze]
  split
  .rw[Pe js,Hi]
  .exact Pe js σ
def A13{γ:Gh}{w w1:World}{κ:E0}{O:List (Nat × Nat)}(h:Ext γ w ⟨κ,O⟩ w1)(O':List (Nat × Nat)):Ext γ w ⟨κ,O++O'⟩ w1 where
 kap:=h.kap
 cell:=h.cell
 obj:=fun i blk g hi=>by
  obtain⟨b',g',h1,h2,h3⟩:=h.obj i blk g hi;exact⟨b',g',by rw[B6 (Ak.1 h1).1];exact h1,h2,h3⟩
def A14{N M:Nat}{O:List (Nat × Nat)}{γ':Gh}{σ σ0:St}{w1:World}(h1:Inv G N ⟨γ'.κ,O⟩ σ w1)(h2:Inv G M γ' σ0 w1)(hM:∀ (i:Nat) (p:Nat × Nat),O[i]?=some p->p.1<M)(qZ:N<=M):
  Inv G N ⟨γ'.κ,O++γ'.O⟩ (σ++σ0.map (Ob.ren (·+σ.length))) w1 where
 base:=h1.base
 len:=by
  have e1:=h1.len;have e2:=h2.len;simp only[Al,Ap]at e1 ⊢;omega
 nd:=by
  rw[Dw,List.nodup_append];refine⟨h1.nd,h2.nd,fun a ha b hb=>?_⟩;obtain⟨p,hp,rfl⟩:=Ct.1 ha;obtain⟨q,hq,rfl⟩:=Ct.1 hb;obtain⟨i,hi,rfl⟩:=Qq hp;obtain⟨j,hj,rfl⟩:=Qq hq;have:=hM i _ (Bc hi);have:=h2.low j _ (Bc hj);omega
 low:=fun i p hp=>by
  by_cases hi:i<O.length
  .exact h1.low i p (by rw[B6 hi]at hp;exact hp)
  .rw[Co (by omega)]at hp;exact Cw qZ (h2.low _ p hp)
 obj:=fun i ob p hs hp=>by
  have hl:O.length=σ.length:=h1.len;by_cases hi:i<σ.length
  .rw[B6 hi]at hs;rw[B6 (by omega)]at hp;have:=(h1.obj i ob p hs hp).renum (O:=O++γ'.O) (ρ:=fun i=>i) (fun j _ q hq=>by rw[B6 (Ak.1 hq).1];exact hq);rw[Ann]at this;exact this
  .rw[Co (by omega),Aj]at hs;rw[Co (by omega)]at hp;obtain⟨jn,h0,rfl⟩:=Bu.1 hs
   exact(h2.obj _ jn p h0 (by rw[<-hl];exact hp)).renum (O:=O++γ'.O) (ρ:=(·+σ.length)) (fun j _ q hq=>by
    rw[Co (by omega)];show γ'.O[j+σ.length - O.length]?=some q;rw[hl,Afu]
    exact hq)
 dom:=h1.dom
 glob:=fun g r hg=>by
  obtain⟨b,o,k,row,hu,a1,a2,a3,a4⟩:=Mg (h1.glob g r hg);rw[hu];exact .imm row a1 a2 a3 a4
 gsz:=h1.gsz
def Acr(hT:∀ f F,T f=some F->F.spec=none->Qi P G f F=true){f:Nat}{args:List V}{σ σ' σ2:St}{e':Env}{F:AF}{v v2:V}(hF:T f=some F)(qc:F.spec=none)(hl:args.length=F.pars)(qf:Cd e' σ' F.res=some v)(qr:Cm v=true)
  (hk:∀ (γ γ':Gh) (w w':World) (N:Nat) (u:Value),Inv G N γ σ w->Inv G N γ' σ' w'->Ext γ w γ' w'->RepV γ' w' v u->∃ γ2,RepV γ2 w' v2 u/\Inv G N γ2 σ2 w'/\Ext γ w γ2 w'/\∀ b,b<N->γ2.κ b=γ'.κ b)
  (ih:Aju P G (.code [.c F.body] (Dd 0 args) σ e' σ')):Aju P G (.fn f args σ v2 σ2):=by
 intro us w γ N qv qP hI;obtain⟨fn,c,hf,hb,hC,hR,qU,hn⟩:=Ye (hT f F hF qc);intro cs
 let b:Frame:={ (default:Frame) with fn:=f,kind:=.normal }
 have jj:(us.toArray++Array.replicate (fn.ntmps - us.toArray.size) undef).size=fn.ntmps:=by simp;omega
 have qA:Frame.enter P f us.toArray .normal=b.at { tmps:=us.toArray++Array.replicate (fn.ntmps - us.toArray.size) undef,defers:=[] } [.code c]:=by
  simp[Frame.enter,Frame.at,hf,hb,b]
 have qX:RepE γ w (Dd 0 args) (us.toArray++Array.replicate (fn.ntmps - us.toArray.size) undef):=fun m=>by
  rw[Amq,if_pos (Au _),U9];by_cases hm:m<args.length
  .have:=qP m hm
   have e1:(us.toArray++Array.replicate (fn.ntmps - us.toArray.size) undef).getD m undef=us.getD m undef:=by
    rw[Array.getD_eq_getD_getElem?,Array.getElem?_append_left (by simp;omega),Sd,Av]
   rw[e1];exact this
  .rw[show args.getD m .und=.und by rw[Av,O8 (by omega)];rfl];exact .und
 obtain⟨a',w',qj,hs,γ',g1,g2,g3,g4,g5,g6,g7⟩:=ih fn.ntmps [] [.code c] { tmps:=us.toArray++Array.replicate (fn.ntmps - us.toArray.size) undef,defers:=[] } w γ N (.c hC .nil) jj rfl qX hI b cs;rw[<-qA]at hs
 have qs:∃ u,(results fn a'.tmps).run P w'=.ok u w'/\RepV γ' w' v u:=by
  have qI:∀ us':List Value,(fn.results.toList.mapM (Ze a'.tmps)).run P w'=.ok us' w'->(results fn a'.tmps).run P w'=.ok (if h:us'.toArray.size=1 then us'.toArray[0] else .tuple us'.toArray) w':=fun us' h=>by
   have e1:results fn a'.tmps=(do let vs <-fn.results.mapM (Ze a'.tmps);pure (if h:vs.size=1 then vs[0] else .tuple vs)):=by
    unfold results;congr 2
   rw[e1,Array.mapM_eq_mapM_toList];simp[h]
  unfold Cd at qf
  split at qf
  .rename_i r jh;rw[jh]at hR;have hm:[r].mapM (Gl e' σ')=some [v]:=by simp[qf]
   obtain⟨us',k1,k2,k3,k4⟩:=Ah5 (P:=P) g1 g2 hR hm;obtain⟨u,rfl⟩:=Afp.1 (show us'.length=1 by simpa using k2.symm);refine⟨u,by simpa using qI [u] k1,?_⟩;simpa using k4 0 (by simp)
  .rename_i rs jf;simp only[Bu]at qf;obtain⟨vs,hm,rfl⟩:=qf;obtain⟨us',k1,k2,k3,k4⟩:=Ah5 (P:=P) g1 g2 hR hm
   have je:us'.length≠1:=fun h1=>by
    have:F.res.length=1:=by
     have:=(Pl hm).1;omega
    obtain⟨r,hr⟩:=Afp.1 this;exact jf r hr
   refine⟨.tuple us'.toArray,by simpa[je] using qI us' k1,.tup k2 (fun j hj=>?_)⟩;refine A5q ?_ (k4 j hj);have:=Bp.1 (show vs.all H8=true from qr) (vs.getD j .und) (by rw[Av,Bc hj];exact Fy hj);exact this
 obtain⟨u,hu,hv⟩:=qs;obtain⟨γ2,i1,i2,i3,i4⟩:=hk γ γ' w w' N u hI g2 g3 hv;exact⟨.returned u,w',_,⟨u,γ2,rfl,i1,i2,i3,g4,fun b hb=>(i4 b hb).trans (g5 b hb)⟩,hs,rfl,rfl,g7,rfl,fn,hf,hu⟩
def Au3(hT:∀ f F,T f=some F->F.spec=none->Qi P G f F=true)(hS:∀ f F s,T f=some F->F.spec=some s->Rm P G f s)(jg:∀ f s,pr f=some s->Ir P G f s){j:J}(h:Ev T pr j):Aju P G j:=by
 induction h with
 | opsNil=>
  intro n D ops L a w γ N Q hM ha hd hE hI hQ
  cases L with
  | nil=>exact hQ a w ⟨γ,hE,hI,Ext.refl _ _,Below.refl _ _,fun _ _=>rfl,ha,hd⟩
  | cons=>exact hM.elim
 | opsSkip hw _ ih=>
  intro n D ops L a w γ N Q hM ha hd hE hI hQ;obtain⟨j,js,o,rfl,ho,qd,ql⟩:=hM.tail;obtain⟨k1,k2,k3,k4⟩:=Qw qd;refine A9r ho (Qy k3 ha hE hw) ?_;obtain⟨p1,p2,p3⟩:=Q8 (u:=undef) k2 ha hE .skp;rw[k1]at p1 p2 p3;exact ih n D ops js _ w γ N Q ql p2 (p3.trans hd) (by rw[k1];exact p1) hI hQ
 | @opsVal i l e e' σ σ1 σ' v hw hv _ ih=>
  intro n D ops L a w γ N Q hM ha hd hE hI hQ;obtain⟨j,js,o,rfl,ho,qd,ql⟩:=hM.tail;obtain⟨k1,k2,k3,k4⟩:=Qw qd;refine Ua (n:=n) ho (Qy k3 ha hE hw) ?_
  have jm:W4 P G i.op o.op=true:=by
   split at k4
   .rename_i f xs e1;rw[e1]at hv;simp[Ae]at hv
   .rename_i s xs e1;rw[e1]at hv;simp[Ae]at hv
   .exact k4
  obtain⟨u,w1,γ1,hr,jl,qY,qW,ja,jd⟩:=Bdy jm hE hI hv;obtain⟨p1,p2,p3⟩:=Q8 (u:=u) k2 ha (hE.ext qW) jl
  have next:wpOps P ops Q js (a.put o.dst u) w1:=by
   rw[<-k1];exact ih n D ops js _ w1 γ1 N Q ql p2 (p3.trans hd) p1 qY (fun a' w' hl=>hQ a' w' (hl.after qW ja jd))
  unfold Oper.wp;rcases hr with hr | ⟨hr,rfl⟩
  .rw[hr];exact next
  .rw[hr];exact next
 | @opsPrim i f args l e e' σ σ' s vs v hw hc hp hx hs _ ih=>
  intro n D ops L a w γ N Q hM ha hd hE hI hQ;obtain⟨j,js,o,rfl,ho,qd,ql⟩:=hM.tail;obtain⟨k1,k2,k3,k4⟩:=Qw qd;refine Ua (n:=n) ho (Qy k3 ha hE hw) ?_;obtain⟨⟨fn,c,hf,hb,hn⟩,qJ⟩:=jg f s hp;obtain⟨us,qg,qy,qt⟩:=Vb (ops:=ops) (n:=n) k4 hc hE hI hf hb hn;obtain⟨κ1,z1,z2,z3,z4,_⟩:=hI.freeze (Le σ args);obtain⟨ml,mg⟩:=Pl hx;unfold Oper.wp;rw[qg];have qD:=Ahl z1;refine(qJ κ1 w vs us v qD.glob (fun g r hg=>(qD.gsz g r hg).2) z1.dom (by omega) (fun j hj=>?_) hs).mono ?_
  .have qp:j<args.length:=by omega
   obtain⟨y,hy,qG⟩:=mg j _ (Bc qp);rw[show vs.getD j .und=y by rw[Av,hy];rfl];have:=qt j qp;rw[show args.getD j .und=args[j] by rw[Av,Bc qp];rfl]at this;exact Xy hI z2 z4 qG this []
  rintro _ w1 ⟨u,κ',rfl,hu,qm,hk,qM⟩;obtain⟨γ1,q1,q2,q3,q4,q5⟩:=Amo (args:=args) hI z1 z2 z3 qm hk qM hu;obtain⟨p1,p2,p3⟩:=Q8 (u:=u) k2 ha (hE.ext q2) q3;show wpOps P ops Q js (a.put o.dst u) w1;rw[<-k1];exact ih n D ops js _ w1 _ N Q ql p2 (p3.trans hd) p1 q1 (fun a' w' hl=>hQ a' w' (hl.after q2 q5 q4))
 | @opsPure i f args l e e' σ σ0 σ' F vs v v' hw hc hF hthr qc hx _ hv _ ihf ih=>
  intro n D ops L a w γ N Q hM ha hd hE hI hQ;obtain⟨j,js,o,rfl,ho,qd,ql⟩:=hM.tail;obtain⟨k1,k2,k3,k4⟩:=Qw qd;refine Ua (n:=n) ho (Qy k3 ha hE hw) ?_;obtain⟨fn,c,hf,hb,_,_,_,hn⟩:=Ye (hT f F hF qc);obtain⟨us,qg,qy,qt⟩:=Vb (ops:=ops) (n:=n) k4 hc hE hI hf hb hn;obtain⟨κ1,z1,z2,z3,z4,_⟩:=hI.freeze (Le σ args);obtain⟨ml,mg⟩:=Pl hx;unfold Oper.wp;rw[qg];have qD:=Ahl z1;refine(ihf us w ⟨κ1,[]⟩ w.heap.size (by omega) (fun j hj=>?_) qD).mono ?_
  .have qp:j<args.length:=by omega
   obtain⟨y,hy,qG⟩:=mg j _ (Bc qp);rw[show vs.getD j .und=y by rw[Av,hy];rfl];have:=qt j qp;rw[show args.getD j .und=args[j] by rw[Av,Bc qp];rfl]at this;exact .one (Xy hI z2 z4 qG this [])
  rintro _ w1 ⟨u,γ',rfl,hu,qn,qu,qm,hk⟩;obtain⟨κ2,y1,y2,y3,y4,_⟩:=qn.freeze (Fl σ0 9 v.refs.eraseDups);have jk:RepV ⟨κ2,[]⟩ w1 v' u:=Abi qn y2 y4 hv hu [];obtain⟨γ1,q1,q2,q3,q4,q5⟩:=Amo (args:=args) hI z1 z2 z3 qm (fun b qq=>(y3 b qq).trans (hk b qq)) y1.dom jk;obtain⟨p1,p2,p3⟩:=Q8 (u:=u) k2 ha (hE.ext q2) q3;show wpOps P ops Q js (a.put o.dst u) w1;rw[<-k1];exact ih n D ops js _ w1 _ N Q ql p2 (p3.trans hd) p1 q1 (fun a' w' hl=>hQ a' w' (hl.after q2 q5 q4))
 | @opsOwn i f args l e e' σ σ0 σ' F vs v hw hc hF hthr qc hx _ _ ihf ih=>
  intro n D ops L a w γ N Q hM ha hd hE hI hQ;obtain⟨j,js,o,rfl,ho,qd,ql⟩:=hM.tail;obtain⟨k1,k2,k3,k4⟩:=Qw qd;refine Ua (n:=n) ho (Qy k3 ha hE hw) ?_;obtain⟨fn,c,hf,hb,_,_,_,hn⟩:=Ye (hT f F hF qc);obtain⟨us,qg,qy,qt⟩:=Vb (ops:=ops) (n:=n) k4 hc hE hI hf hb hn;obtain⟨κ1,z1,z2,z3,z4,_⟩:=hI.freeze (Le σ args);obtain⟨ml,mg⟩:=Pl hx;unfold Oper.wp;rw[qg];have qD:=Ahl z1;refine(ihf us w ⟨κ1,[]⟩ w.heap.size (by omega) (fun j hj=>?_) qD).mono ?_
  .have qp:j<args.length:=by omega
   obtain⟨y,hy,qG⟩:=mg j _ (Bc qp);rw[show vs.getD j .und=y by rw[Av,hy];rfl];have:=qt j qp;rw[show args.getD j .und=args[j] by rw[Av,Bc qp];rfl]at this;exact .one (Xy hI z2 z4 qG this [])
  rintro _ w1 ⟨u,γ',rfl,hu,qn,qu,qm,hk⟩;obtain⟨i1,i2⟩:=z1.more (w':=w1) (κ':=γ'.κ) (fun b qq=>qm.block b qq) qm.size hk qn.dom;have qv:(σ.freeze (Le σ args)).length=σ.length:=Pe _ _;have q1:=A14 i1 qn (fun i p hp=>hI.oblt hp) hI.base;rw[qv]at q1;have q2:Ext γ w ⟨γ'.κ,γ.O++γ'.O⟩ w1:=A13 (z2.trans i2) _
  have q3:RepV ⟨γ'.κ,γ.O++γ'.O⟩ w1 (v.ren (·+σ.length)) u:=hu.renum (fun i hi p hp=>by
   rw[Co (by rw[hI.len];omega),hI.len,Afu];exact hp)
  obtain⟨p1,p2,p3⟩:=Q8 (u:=u) k2 ha (hE.ext q2) q3;show wpOps P ops Q js (a.put o.dst u) w1;rw[<-k1];exact ih n D ops js _ w1 _ N Q ql p2 (p3.trans hd) p1 q1 (fun a' w' hl=>hQ a' w' (hl.after q2 (qm.mono hI.base) (fun b qq=>(hk b (Pa qq hI.base)).trans (z3 b qq))))
 | @opsAny i f args l e e' σ σ1 σ' F v hw hc hF qc _ _ ihf ih=>
  intro n D ops L a w γ N Q hM ha hd hE hI hQ;obtain⟨j,js,o,rfl,ho,qd,ql⟩:=hM.tail;obtain⟨k1,k2,k3,k4⟩:=Qw qd;refine Ua (n:=n) ho (Qy k3 ha hE hw) ?_;obtain⟨fn,c,hf,hb,_,_,_,hn⟩:=Ye (hT f F hF qc);obtain⟨us,qg,qy,qt⟩:=Vb (ops:=ops) (n:=n) k4 hc hE hI hf hb hn;unfold Oper.wp;rw[qg];refine(ihf us w γ N qy qt hI).mono ?_;rintro _ w1 ⟨u,γ',rfl,hu,qn,qu,qm,hk⟩;obtain⟨p1,p2,p3⟩:=Q8 (u:=u) k2 ha (hE.ext qu) hu;show wpOps P ops Q js (a.put o.dst u) w1;rw[<-k1];exact ih n D ops js _ w1 _ N Q ql p2 (p3.trans hd) p1 qn (fun a' w' hl=>hQ a' w' (hl.after qu qm hk))
 | @opsThr i f args l e e' σ σ1 σ' F v hw hc hF hthr qc _ _ ihf ih=>
  intro n D ops L a w γ N Q hM ha hd hE hI hQ;obtain⟨j,js,o,rfl,ho,qd,ql⟩:=hM.tail;obtain⟨k1,k2,k3,k4⟩:=Qw qd;refine Ua (n:=n) ho (Qy k3 ha hE hw) ?_;obtain⟨fn,c,hf,hb,_,_,_,hn⟩:=Ye (hT f F hF qc);obtain⟨us,qg,qy,qt⟩:=Vb (ops:=ops) (n:=n) k4 hc hE hI hf hb hn;unfold Oper.wp;rw[qg];refine(ihf us w γ N qy qt hI).mono ?_;rintro _ w1 ⟨u,γ',rfl,hu,qn,qu,qm,hk⟩;obtain⟨p1,p2,p3⟩:=Q8 (u:=u) k2 ha (hE.ext qu) hu;show wpOps P ops Q js (a.put o.dst u) w1;rw[<-k1];exact ih n D ops js _ w1 _ N Q ql p2 (p3.trans hd) p1 qn (fun a' w' hl=>hQ a' w' (hl.after qu qm hk))
 | @opsSpec i f args l e e' σ σ1 σ' F s v hw hc hF hthr qc hs _ ih=>
  intro n D ops L a w γ N Q hM ha hd hE hI hQ;obtain⟨j,js,o,rfl,ho,qd,ql⟩:=hM.tail;obtain⟨k1,k2,k3,k4⟩:=Qw qd;refine Ua (n:=n) ho (Qy k3 ha hE hw) ?_;obtain⟨⟨fn,c,hf,hb,hn⟩,qC⟩:=hS f F s hF qc;obtain⟨us,qg,qy,qt⟩:=Vb (ops:=ops) (n:=n) k4 hc hE hI hf hb hn;unfold Oper.wp;rw[qg];refine(qC _ σ v σ1 hs us w γ N qy qt hI).mono ?_;rintro _ w1 ⟨u,γ',rfl,hu,qn,qu,qm,hk⟩;obtain⟨p1,p2,p3⟩:=Q8 (u:=u) k2 ha (hE.ext qu) hu;show wpOps P ops Q js (a.put o.dst u) w1;rw[<-k1];exact ih n D ops js _ w1 _ N Q ql p2 (p3.trans hd) p1 qn (fun a' w' hl=>hQ a' w' (hl.after qu qm hk))
 | fn hF qc hl _ qf hok1 hok2 hok3 ih=>
  refine Acr hT hF qc hl qf hok1 (fun γ γ' w w' N u hI h2 hx hv=>?_) ih;obtain⟨γ2,i1,i2,i3,i4⟩:=Anq hI h2 hx hok2 hok3 hv;exact⟨γ2,i1,i2,i3,fun b _=>i4 b⟩
 | fnL hF qc hl _ qf qd ih=>
  refine Acr hT hF qc hl qf (by unfold H2 at qd;simp only[Af]at qd;exact qd.1) (fun γ γ' w w' N u hI h2 hx hv=>?_) ih;obtain⟨γ2,i1,i2,i3,i4⟩:=Anr hI h2 hx qd hv;exact⟨γ2,i1,i2,i3,fun b _=>i4 b⟩
 | fnS hF qc hl _ qf qr hset hok2 hok3 ih=>
  refine Acr hT hF qc hl qf qr (fun γ γ' w w' N u hI h2 hx hv=>?_) ih;obtain⟨κ2,y1,y2,y3,y4,_⟩:=h2.freeze _;obtain⟨γ2,i1,i2,i3,i4⟩:=Anq hI y1 (hx.trans y2) hok2 hok3 (Abi h2 y2 y4 hset hv γ'.O);exact⟨γ2,i1,i2,i3,fun b hb=>(i4 b).trans (y3 b hb)⟩
 | fnZ hF qc hl _ qf qr hset qd ih=>
  refine Acr hT hF qc hl qf qr (fun γ γ' w w' N u hI h2 hx hv=>?_) ih;obtain⟨κ2,y1,y2,y3,y4,_⟩:=h2.freeze _;obtain⟨γ2,i1,i2,i3,i4⟩:=Anr hI y1 (hx.trans y2) qd (Abi h2 y2 y4 hset hv γ'.O);exact⟨γ2,i1,i2,i3,fun b hb=>(i4 b).trans (y3 b hb)⟩
 | cNil=>
  intro n D qh a w γ N hM ha hd hE hI b cs;cases hM;exact⟨a,w,[],.one step_end,γ,hE,hI,Ext.refl _ _,Below.refl _ _,fun _ _=>rfl,ha,hd⟩
 | cSkip _ ih=>
  intro n D qh a w γ N hM ha hd hE hI b cs
  cases hM with
  | c qd hM=>
   have ji:=A1y qd;obtain⟨a',w',t',hs,hl⟩:=ih n D _ a w γ N hM ha hd hE hI b cs;exact⟨a',w',t',.head (Azk ji) hs,hl⟩
 | @cReg kill qi k e e1 e' σ σ1 σ' _ _ ih1 ih2=>
  intro n D qh a w γ N hM ha hd hE hI b cs
  cases hM with
  | @c _ _ _ qj qd hM=>
   obtain⟨id,ops,rfl,qB⟩:=A5r qd
   have hw:=ih1 n D ops (List.range ops.size) a w γ N (fun ex a' w'=>ex=.normal/\Leaves G N n D γ σ w e1 σ1 a' w') (by
    have:=Apd qi ops.toList 0 qB (by simp);rw[List.range_eq_range']
    simpa using this) ha hd hE hI (fun a' w' h=>⟨rfl,h⟩)
   obtain⟨ex,a1,w1,⟨rfl,γ1,q1,q2,q3,q4,q5,q6,q7⟩,qz⟩:=wp_ops _ a w hw b qj cs;obtain⟨a',w',t',hs,hl⟩:=ih2 n D _ a1 w1 γ1 N hM q6 q7 (q1.del kill) q2 b cs;exact⟨a',w',t',.head step_region (Steps.trans qz hs),hl.after q3 q4 q5⟩
 | @cDrw kill qa qi k e e1 e' σ σ1 σ' E2 _ hE2 _ ih1 ih2=>
  intro n D qh a w γ N hM ha hd hE hI b cs
  cases hM with
  | @c _ _ _ qj qd hM=>
   obtain⟨id,ops,rfl,qB,qw,qN⟩:=A5s qd;obtain⟨d1,d2⟩:=hI.drew;have qv:qa.length=ops.size:=by simpa using (Ab8 qw).1
   have qQ:∀ t,Region.schedule (P.follows .mixedOrders) ops t=O2 qa t:=fun t=>by
    unfold Region.schedule;rw[qN];simpa using A9q qw t
   have hw:=ih1 (w.tape w.drawn (.order b.fn id)) n D ops (O2 qa (w.tape w.drawn (.order b.fn id))) a w.drew γ N (fun ex a' w'=>ex=.normal/\Leaves G N n D γ σ w.drew (E2 (w.tape w.drawn (.order b.fn id))) σ1 a' w')
    (Arn qB _ (fun i hi=>by rw[<-qv];exact Atb qa _ _ [] (fun i hi=>by cases hi) i hi)) ha hd (hE.ext d2) d1 (fun a' w' h=>⟨rfl,h⟩)
   obtain⟨ex,a1,w1,⟨rfl,γ1,q1,q2,q3,q4,q5,q6,q7⟩,qz⟩:=wp_ops _ a w.drew hw b qj cs;have jo:RepE γ1 w1 e1 a1.tmps:=fun m=>by rw[<-hE2 (w.tape w.drawn (.order b.fn id)) m];exact q1 m
   obtain⟨a',w',t',hs,hl⟩:=ih2 n D _ a1 w1 γ1 N hM q6 q7 (jo.del kill) q2 b cs;have qx:=step_region_draw (P:=P) (b:=b) (a:=a) (k:=qj) (cs:=cs) (w:=w) (ops:=ops) (id:=id);rw[qQ]at qx;exact⟨a',w',t',.head qx (Steps.trans qz hs),(Leaves.after (σ:=σ) (σ1:=σ) d2 (Below.refl _ _).drew (fun _ _=>rfl) (Leaves.after (σ:=σ) q3 q4 q5 hl))⟩
 | cSeq _ ih=>
  intro n D qh a w γ N hM ha hd hE hI b cs
  cases hM with
  | c qd hM=>
   obtain⟨c1,c2,rfl,h1,h2⟩:=A5t qd;obtain⟨a',w',t',hs,hl⟩:=ih n D _ a w γ N (.c h1 (.c h2 hM)) ha hd hE hI b cs;exact⟨a',w',t',.head step_seq hs,hl⟩
 | @cCond s kill x y k e e' σ σ' z hc _ ih=>
  intro n D qh a w γ N hM ha hd hE hI b cs
  cases hM with
  | c qd hM=>
   obtain⟨o,c1,c2,rfl,h1,h2,h3⟩:=A1z hc qd;have hr:=Yr (a:=a) h1 hE hI;rw[hc]at hr;have hz:=Ph (Az rfl hr);obtain⟨a',w',t',hs,hl⟩:=ih n D _ a w γ N (.c (c:=if z then c1 else c2) (by cases z<;>assumption) hM) ha hd (hE.del kill) hI b cs;exact⟨a',w',t',.head (step_cond hz) hs,hl⟩
 | cBlk _ ih=>
  intro n D qh a w γ N hM ha hd hE hI b cs
  cases hM with
  | c qd hM=>
   rcases A5v qd with⟨c1,rfl,h1⟩ | ⟨c1,rfl,hi,h1⟩
   .obtain⟨a',w',t',hs,hl⟩:=ih n D _ a w γ N (.c h1 (.b hM)) ha hd hE hI b cs;exact⟨a',w',t',.head step_block hs,hl⟩
   .obtain⟨a',w',t',hs,hl⟩:=ih n D _ a w γ N (.c h1 (.s hi hM)) ha hd hE hI b cs;exact⟨a',w',t',.head step_scope hs,hl⟩
 | cEnd _ ih=>
  intro n D qh a w γ N hM ha hd hE hI b cs
  cases hM with
  | b hM=>
   obtain⟨a',w',t',hs,hl⟩:=ih n D _ a w γ N hM ha hd hE hI b cs;exact⟨a',w',t',.head step_inBlock hs,hl⟩
  | s _ hM=>
   obtain⟨a',w',t',hs,hl⟩:=ih n D _ a w γ N hM ha hd hE hI b cs;exact⟨a',w',t',.head step_inScope hs,hl⟩
 | cLoop _ ih=>
  intro n D qh a w γ N hM ha hd hE hI b cs
  cases hM with
  | c qd hM=>
   obtain⟨c1,rfl,h1⟩:=A11 qd;exact ih n D _ a w γ N (.l' h1 hM) ha hd hE hI b cs
 | @cAgain keep c k e e' σ σ' _ ih=>
  intro n D qh a w γ N hM ha hd hE hI b cs
  cases hM with
  | l qd hM=>
   obtain⟨a',w',t',hs,hl⟩:=ih n D _ a w γ N (.c qd (.l qd hM)) ha hd (hE.keep keep) hI b cs;exact⟨a',w',t',.head step_inLoop hs,hl⟩
  | l' qd hM=>
   obtain⟨a',w',t',hs,hl⟩:=ih n D _ a w γ N (.c qd (.l qd hM)) ha hd (hE.keep keep) hI b cs;exact⟨a',w',t',.head step_loop hs,hl⟩
 | cExit hk _ ih=>
  intro n D qh a w γ N hM ha hd hE hI b cs
  cases hM with
  | c qd hM=>
   obtain⟨rfl,qq⟩:=A12 qd;obtain⟨qj,h1,h2⟩:=hM.exit qq hk;obtain⟨a',w',t',hs,hl⟩:=ih n D _ a w γ N h2 ha hd hE hI b cs;exact⟨a',w',t',.head (step_exit h1) hs,hl⟩
 | cRet=>
  intro n D qh a w γ N hM ha hd hE hI b cs
  cases hM with
  | c qd hM=>
   obtain rfl:=A5w qd;exact⟨a,w,_,.one step_ret,γ,hE,hI,Ext.refl _ _,Below.refl _ _,fun _ _=>rfl,ha,hd⟩
variable {T:Nat->Option AF} {pr:Nat->Option (List V->Option V)}
def W(T:Nat->Option AF)(pr:Nat->Option (List V->Option V))(k:List It)(e:Env)(σ:St)(Q:Env->St->Prop):Prop:=∃ e' σ',Ev T pr (.code k e σ e' σ')/\Q e' σ'
def WO(T:Nat->Option AF)(pr:Nat->Option (List V->Option V))(l:List AI)(e:Env)(σ:St)(Q:Env->St->Prop):Prop:=∃ e' σ',Ev T pr (.ops l e σ e' σ')/\Q e' σ'
section
variable {Q:Env->St->Prop} {e:Env} {σ:St} {k:List It}
def Bdz{a b:AC}(h:W T pr (.c a::.c b::k) e σ Q):W T pr (.c (.seq a b)::k) e σ Q:=let ⟨e',σ',h,q⟩:=h;⟨e',σ',.cSeq h,q⟩
def A9s(h:W T pr k e σ Q):W T pr (.c .skip::k) e σ Q:=let ⟨e',σ',h,q⟩:=h;⟨e',σ',.cSkip h,q⟩
def Bd0{id:Nat}{c:AC}(h:W T pr (.c c::.b id::k) e σ Q):W T pr (.c (.blk id c)::k) e σ Q:=let ⟨e',σ',h,q⟩:=h;⟨e',σ',.cBlk h,q⟩
def Bd1{id:Nat}(h:W T pr k e σ Q):W T pr (.b id::k) e σ Q:=let ⟨e',σ',h,q⟩:=h;⟨e',σ',.cEnd h,q⟩
def A9t{keep:List Nat}{c:AC}(h:W T pr (.l keep c::k) e σ Q):W T pr (.c (.loop keep c)::k) e σ Q:=let ⟨e',σ',h,q⟩:=h;⟨e',σ',.cLoop h,q⟩
def A5x{keep:List Nat}{c:AC}(h:W T pr (.c c::.l keep c::k) (e.keep keep) σ Q):W T pr (.l keep c::k) e σ Q:=let ⟨e',σ',h,q⟩:=h;⟨e',σ',.cAgain h,q⟩
def A9u{id:Nat}{k':List It}(hk:exitTo id k=some k')(h:W T pr k' e σ Q):W T pr (.c (.exit id)::k) e σ Q:=let ⟨e',σ',h,q⟩:=h;⟨e',σ',.cExit hk h,q⟩
def Bd2(q:Q e σ):W T pr (.c .ret::k) e σ Q:=⟨e,σ,.cRet,q⟩
def Bd3(q:Q e σ):W T pr [] e σ Q:=⟨e,σ,.cNil,q⟩
def Atc{c:S}{kill:List Nat}{x y:AC}{z:Bool}(hc:Ab e c=.bool z)(h1:z=true->W T pr (.c x::k) (e.del kill) σ Q)(h2:z=false->W T pr (.c y::k) (e.del kill) σ Q):W T pr (.c (.cond c kill x y)::k) e σ Q:=by
 cases z with
 | true=>
  obtain⟨e',σ',h,q⟩:=h1 rfl;exact⟨e',σ',.cCond hc h,q⟩
 | false=>
  obtain⟨e',σ',h,q⟩:=h2 rfl;exact⟨e',σ',.cCond hc h,q⟩
def A15{c:S}{kill:List Nat}{x y:AC}(hc:Ab e c=.bool true)(h:W T pr (.c x::k) (e.del kill) σ Q):W T pr (.c (.cond c kill x y)::k) e σ Q:=Atc hc (fun _=>h) (fun h=>by cases h)
def A16{c:S}{kill:List Nat}{x y:AC}(hc:Ab e c=.bool false)(h:W T pr (.c y::k) (e.del kill) σ Q):W T pr (.c (.cond c kill x y)::k) e σ Q:=Atc hc (fun h=>by cases h) (fun _=>h)
def Fn(T:Nat->Option AF)(pr:Nat->Option (List V->Option V))(f:Nat)(vs:List V)(v:V):Prop:=∃ F,T f=some F/\F.thr=false/\F.spec=none/\∃ v0 σ0,Ev T pr (.fn f vs [] v0 σ0)/\Ex σ0 v0=some v
def FnO(T:Nat->Option AF)(pr:Nat->Option (List V->Option V))(f:Nat)(vs:List V)(v:V)(σ0:St):Prop:=∃ F,T f=some F/\F.thr=false/\F.spec=none/\Ev T pr (.fn f vs [] v σ0)
def Th(T:Nat->Option AF)(pr:Nat->Option (List V->Option V))(f:Nat)(vs:List V)(σ:St)(v:V)(σ':St):Prop:=∃ F,T f=some F/\F.thr=true/\F.spec=none/\Ev T pr (.fn f vs σ v σ')
def Bv(T:Nat->Option AF)(pr:Nat->Option (List V->Option V))(f:Nat)(vs:List V)(σ:St)(v:V)(σ':St):Prop:=∃ F,T f=some F/\F.spec=none/\Ev T pr (.fn f vs σ v σ')
def Akv(n:Nat)(σ:St)(v:V)(σ1:St):Prop:=Cm v=true/\E4 n [] v.refs=true/\∀ i ob,i<n->σ1[i]?=some ob->σ[i]?=some ob\/E4 n [] ob.refs=true
def A17{f:Nat}{vs:List V}{v:V}{F:AF}{σ':St}(hT:T f=some F)(ht:F.thr=true)(qc:F.spec=none)(hl:vs.length=F.pars)(h:W T pr [.c F.body] (Dd 0 vs) σ fun e' σ1=>Cd e' σ1 F.res=some v/\Akv σ.length σ v σ1/\σ'=σ1.take σ.length):Th T pr f vs σ v σ':=by
 obtain⟨e',σ1,hE,hr,⟨h1,h2,h3⟩,rfl⟩:=h;exact⟨F,hT,ht,qc,.fn hT qc hl hE hr h1 h2 h3⟩
def Azl{f:Nat}{vs:List V}{v:V}{F:AF}{σ':St}(hT:T f=some F)(ht:F.thr=true)(qc:F.spec=none)(hl:vs.length=F.pars)(h:W T pr [.c F.body] (Dd 0 vs) σ fun e' σ1=>∃ v0 js,Cd e' σ1 F.res=some v0/\H2 σ.length js v0 σ1=true/\v=v0.ren (ren σ.length js)/\σ'=(σ1.take σ.length++js.filterMap (σ1[·]?)).map (Ob.ren (ren σ.length js))):Th T pr f vs σ v σ':=by
 obtain⟨e',σ1,hE,v0,js,hr,qE,rfl,rfl⟩:=h;exact⟨F,hT,ht,qc,.fnL hT qc hl hE hr qE⟩
def Ape{f:Nat}{vs:List V}{v:V}{F:AF}(hT:T f=some F)(ht:F.thr=false)(qc:F.spec=none)(hl:vs.length=F.pars)(h:W T pr [.c F.body] (Dd 0 vs) [] fun e' σ'=>∃ v0,Cd e' σ' F.res=some v0/\Cm v0=true/\v0.refs=[]/\Ex [] v0=some v):Fn T pr f vs v:=by
 obtain⟨e',σ',hE,v0,hr,ho,hn,hb⟩:=h;have:=Ev.fn (T:=T) (pr:=pr) hT qc hl hE hr ho (by rw[hn];rfl) (fun i ob hi=>by simp at hi);exact⟨F,hT,ht,qc,v0,_,this,hb⟩
def Azm{f:Nat}{vs:List V}{v:V}{F:AF}(hT:T f=some F)(ht:F.thr=false)(qc:F.spec=none)(hl:vs.length=F.pars)(h:W T pr [.c F.body] (Dd 0 vs) [] fun e' σ1=>∃ v0 js,Cd e' σ1 F.res=some v0/\H2 0 js v0 σ1=true/\Ex ((js.filterMap (σ1[·]?)).map (Ob.ren (ren 0 js))) (v0.ren (ren 0 js))=some v):Fn T pr f vs v:=by
 obtain⟨e',σ',hE,v0,js,hr,qE,hb⟩:=h;have:=Ev.fnL (T:=T) (pr:=pr) hT qc hl hE hr qE;exact⟨F,hT,ht,qc,_,_,this,by simpa using hb⟩
def Ans{f:Nat}{vs:List V}{v:V}{F:AF}{σ':St}(hT:T f=some F)(qc:F.spec=none)(hl:vs.length=F.pars)(h:W T pr [.c F.body] (Dd 0 vs) σ fun e' σ1=>∃ v0 js,Cd e' σ1 F.res=some v0/\Cm v0=true/\K3 σ1 js v0=some v/\E4 σ.length [] v.refs=true/\(∀ i ob,i<σ.length->(σ1.freeze js)[i]?=some ob->σ[i]?=some ob\/E4 σ.length [] ob.refs=true)/\σ'=(σ1.freeze js).take σ.length):Bv T pr f vs σ v σ':=by
 obtain⟨e',σ1,hE,v0,js,hr,h0,h1,h2,h3,rfl⟩:=h;exact⟨F,hT,qc,.fnS hT qc hl hE hr h0 h1 h2 h3⟩
def Azn{f:Nat}{vs:List V}{v:V}{F:AF}{σ':St}(hT:T f=some F)(ht:F.thr=true)(qc:F.spec=none)(hl:vs.length=F.pars)(h:W T pr [.c F.body] (Dd 0 vs) σ fun e' σ1=>∃ v0 v1 js ks,Cd e' σ1 F.res=some v0/\Cm v0=true/\K3 σ1 js v0=some v1/\H2 σ.length ks v1 (σ1.freeze js)=true/\v=v1.ren (ren σ.length ks)/\σ'=((σ1.freeze js).take σ.length++ks.filterMap ((σ1.freeze js)[·]?)).map (Ob.ren (ren σ.length ks))):Th T pr f vs σ v σ':=by
 obtain⟨e',σ1,hE,v0,v1,js,ks,hr,h0,h1,h2,rfl,rfl⟩:=h;exact⟨F,hT,ht,qc,.fnZ hT qc hl hE hr h0 h1 h2⟩
def Ant{f:Nat}{vs:List V}{v:V}{F:AF}(hT:T f=some F)(ht:F.thr=false)(qc:F.spec=none)(hl:vs.length=F.pars)(h:W T pr [.c F.body] (Dd 0 vs) [] fun e' σ1=>∃ v0 js,Cd e' σ1 F.res=some v0/\Cm v0=true/\K3 σ1 js v0=some v/\v.refs=[]/\Ex [] v=some v):Fn T pr f vs v:=by
 obtain⟨e',σ1,hE,v0,js,hr,h0,h1,h2,h3⟩:=h;have:=Ev.fnS (T:=T) (pr:=pr) hT qc hl hE hr h0 h1 (by rw[h2];rfl) (fun i ob hi=>by simp at hi);exact⟨F,hT,ht,qc,v,_,this,by simpa using h3⟩
end
variable {T:Nat->Option AF} {pr:Nat->Option (List V->Option V)}
def S.rd:S->List Nat
 | .t n=>[n]
 | .k _=>[]
def S.rdO:Option S->List Nat
 | some s=>s.rd
 | none=>[]
def AO.rd:AO->List Nat
 | .mov x | .box _ x | .load _ _ x | .chk x | .un _ x | .cvi _ x | .cvs x | .cvl x | .stb _ x | .bts x | .sap _ x | .fad _ x | .fld _ _ _ x | .ext _ x | .len x | .cap x | .lens x=>x.rd
 | .pick c a b=>c.rd++(a.rd++b.rd)
 | .new _ _ | .mmk=>[]
 | .build _ ps=>ps.flatMap fun p=>p.2.2.rd
 | .rows _ _ ps | .rowf _ _ ps | .rowo _ _ _ ps=>ps.flatMap fun p=>p.2.rd
 | .mk _ _ _ x y | .mlk _ x y=>x.rd++y.rd
 | .mup x k v=>x.rd++(k.rd++v.rd)
 | .mkf _ a c=>a.flatMap S.rd++c.flatMap S.rd
 | .store _ x v=>x.rd++v.rd
 | .bin _ x y | .eq _ _ x y | .iad _ x y | .iar _ _ x y | .idx x y | .ida _ _ _ x y | .app _ _ x y | .apps _ x y | .mx x y | .mn x y=>x.rd++y.rd
 | .slc _ x lo hi m3=>x.rd++(S.rdO lo++(S.rdO hi++S.rdO m3))
 | .slcs x lo hi | .slca _ _ x lo hi=>x.rd++(S.rdO lo++S.rdO hi)
 | .call _ xs=>xs.flatMap S.rd
 | .callv x xs=>x.rd++xs.flatMap S.rd
def AI.rd(i:AI):List Nat:=i.op.rd++(match i.g with
 | some (t,_)=>[t]
 | none=>[])
def Agree(e e':Env)(l:List Nat):Prop:=∀ t∈l,e.get t=e'.get t
def Agree.l{e e':Env}{a b:List Nat}(h:Agree e e' (a++b)):Agree e e' a:=fun t ht=>h t (by simp[ht])
def Agree.r{e e':Env}{a b:List Nat}(h:Agree e e' (a++b)):Agree e e' b:=fun t ht=>h t (by simp[ht])
def Ca{e e':Env}{s:S}(h:Agree e e' s.rd):Ab e s=Ab e' s:=by
 cases s with
 | t n=>exact h n (by simp[S.rd])
 | k v=>rfl
def Tl{e e':Env}{s:Option S}(h:Agree e e' (S.rdO s)):s.map (Ab e)=s.map (Ab e'):=by
 cases s with
 | none=>rfl
 | some s=>simp only[Gb];rw[Ca h]
def Pf{e e':Env}:∀ {xs:List S},Agree e e' (xs.flatMap S.rd)->xs.map (Ab e)=xs.map (Ab e')
 | [],_=>rfl
 | x::xs,h=>by
  rw[Sq]at h;rw[Bb,Bb,Ca h.l,Pf h.r]
def Anu{e e':Env}{op:AO}(h:Agree e e' op.rd)(σ:St):Ae op e σ=Ae op e' σ:=by
 cases op with
 | build z ps=>
  have:(ps.map fun p=>(p.1,p.2.1,Ab e p.2.2))=ps.map fun p=>(p.1,p.2.1,Ab e' p.2.2):=by
   simp only[AO.rd]at h
   induction ps with
   | nil=>rfl
   | cons p ps ih=>
    rw[Sq]at h;rw[Bb,Bb,Ca h.l,ih h.r]
  simp only[Ae,this]
 | rows n z ps=>
  have:(ps.map fun p=>(p.1*z.length,z.length,Ab e p.2))=ps.map fun p=>(p.1*z.length,z.length,Ab e' p.2):=by
   simp only[AO.rd]at h
   induction ps with
   | nil=>rfl
   | cons p ps ih=>
    rw[Sq]at h;rw[Bb,Bb,Ca h.l,ih h.r]
  simp only[Ae,this]
 | rowf n z ps=>
  have:(ps.map fun p=>(p.1*z.length,z.length,Ab e p.2))=ps.map fun p=>(p.1*z.length,z.length,Ab e' p.2):=by
   simp only[AO.rd]at h
   induction ps with
   | nil=>rfl
   | cons p ps ih=>
    rw[Sq]at h;rw[Bb,Bb,Ca h.l,ih h.r]
  simp only[Ae,this]
 | rowo t n z ps=>
  have:(ps.map fun p=>(p.1*z.length,z.length,Ab e p.2))=ps.map fun p=>(p.1*z.length,z.length,Ab e' p.2):=by
   simp only[AO.rd]at h
   induction ps with
   | nil=>rfl
   | cons p ps ih=>
    rw[Sq]at h;rw[Bb,Bb,Ca h.l,ih h.r]
  simp only[Ae,this]
 | call f xs=>rfl
 | callv x xs=>rfl
 | new t z=>rfl
 | mmk=>rfl
 | mkf f a c=>simp only[Ae,AO.rd]at h ⊢;rw[Pf h.l,Pf h.r]
 | mup x k v=>simp only[Ae,AO.rd]at h ⊢;rw[Ca h.l,Ca h.r.l,Ca h.r.r]
 | pick c a b=>simp only[Ae,AO.rd]at h ⊢;rw[Ca h.l,Ca h.r.l,Ca h.r.r]
 | slc m x lo hi mx=>simp only[Ae,AO.rd]at h ⊢;rw[Ca h.l,Tl h.r.l,Tl h.r.r.l,Tl h.r.r.r]
 | slcs x lo hi=>simp only[Ae,AO.rd]at h ⊢;rw[Ca h.l,Tl h.r.l,Tl h.r.r]
 | slca l m x lo hi=>simp only[Ae,AO.rd]at h ⊢;rw[Ca h.l,Tl h.r.l,Tl h.r.r]
 | mov x=>simp only[Ae,AO.rd]at h ⊢;rw[Ca h]
 | box t x=>simp only[Ae,AO.rd]at h ⊢;rw[Ca h]
 | load n one x=>simp only[Ae,AO.rd]at h ⊢;rw[Ca h]
 | chk x=>simp only[Ae,AO.rd]at h ⊢;rw[Ca h]
 | un o x=>simp only[Ae,AO.rd]at h ⊢;rw[Ca h]
 | cvi k x=>simp only[Ae,AO.rd]at h ⊢;rw[Ca h]
 | sap k x=>simp only[Ae,AO.rd]at h ⊢;rw[Ca h]
 | cvs x=>simp only[Ae,AO.rd]at h ⊢;rw[Ca h]
 | cvl x=>simp only[Ae,AO.rd]at h ⊢;rw[Ca h]
 | stb t x=>simp only[Ae,AO.rd]at h ⊢;rw[Ca h]
 | bts x=>simp only[Ae,AO.rd]at h ⊢;rw[Ca h]
 | fad o x=>simp only[Ae,AO.rd]at h ⊢;rw[Ca h]
 | fld o n b x=>simp only[Ae,AO.rd]at h ⊢;rw[Ca h]
 | ext i x=>simp only[Ae,AO.rd]at h ⊢;rw[Ca h]
 | len x=>simp only[Ae,AO.rd]at h ⊢;rw[Ca h]
 | cap x=>simp only[Ae,AO.rd]at h ⊢;rw[Ca h]
 | lens x=>simp only[Ae,AO.rd]at h ⊢;rw[Ca h]
 | store n x v=>simp only[Ae,AO.rd]at h ⊢;rw[Ca h.l,Ca h.r]
 | bin o x y=>simp only[Ae,AO.rd]at h ⊢;rw[Ca h.l,Ca h.r]
 | eq k b x y=>simp only[Ae,AO.rd]at h ⊢;rw[Ca h.l,Ca h.r]
 | iad m x y=>simp only[Ae,AO.rd]at h ⊢;rw[Ca h.l,Ca h.r]
 | iar l m x y=>simp only[Ae,AO.rd]at h ⊢;rw[Ca h.l,Ca h.r]
 | ida l m one x y=>simp only[Ae,AO.rd]at h ⊢;rw[Ca h.l,Ca h.r]
 | idx x y=>simp only[Ae,AO.rd]at h ⊢;rw[Ca h.l,Ca h.r]
 | app b m x y=>simp only[Ae,AO.rd]at h ⊢;rw[Ca h.l,Ca h.r]
 | apps t x y=>simp only[Ae,AO.rd]at h ⊢;rw[Ca h.l,Ca h.r]
 | mx x y=>simp only[Ae,AO.rd]at h ⊢;rw[Ca h.l,Ca h.r]
 | mn x y=>simp only[Ae,AO.rd]at h ⊢;rw[Ca h.l,Ca h.r]
 | mk t b z x y=>simp only[Ae,AO.rd]at h ⊢;rw[Ca h.l,Ca h.r]
 | mlk z x y=>simp only[Ae,AO.rd]at h ⊢;rw[Ca h.l,Ca h.r]
def F8(T:Nat->Option AF)(pr:Nat->Option (List V->Option V)):AO->Nat
 | .load _ _ _=>1
 | .new _ _ | .box _ _ | .store _ _ _ | .app _ _ _ _ | .apps _ _ _ | .rowf _ _ _ | .rowo _ _ _ _ | .mk _ _ _ _ _ | .stb _ _ | .bts _ | .cvl _ | .mmk | .mlk _ _ _ | .mup _ _ _ | .callv _ _=>2
 | .call f _=>match pr f with
  | some _=>0
  | none=>match T f with
   | some F=>if F.thr then 2 else 0
   | none=>2
 | _=>0
def Vp{σ σ1:St}{v:V}{x:Option V}(h:x.map (fun v=>(v,σ))=some (v,σ1)):σ1=σ/\x=some v:=by
 cases x with
 | none=>simp at h
 | some y=>simp at h;exact⟨h.2.symm,by rw[h.1]⟩
def Abj{op:AO}(h0:F8 T pr op=0){e:Env}{σ σ1:St}{v:V}(h:Ae op e σ=some (v,σ1)):σ1=σ/\∀ σ',Ae op e σ'=some (v,σ'):=by
 cases op with
 | new | box | store | app | apps | load | rowf | rowo | mk | stb | bts | cvl | mmk | mlk | mup | callv=>simp[F8]at h0
 | call=>simp[Ae]at h
 | mov x=>simp only[Ae]at h ⊢;cases h;exact⟨rfl,fun _=>rfl⟩
 | pick c a b=>
  simp only[Ae]at h ⊢
  split at h
  .cases h;exact⟨rfl,fun _=>rfl⟩
  .cases h
 | build z ps=>
  simp only[Ae]at h ⊢
  cases hf:Ia z (ps.map fun p=>(p.1,p.2.1,Ab e p.2.2)) with
  | none=>rw[hf]at h;simp at h
  | some cs=>rw[hf]at h;simp at h;exact⟨h.2.symm,fun σ'=>by simp[h.1]⟩
 | rows n z ps=>
  simp only[Ae]at h ⊢
  cases hf:Ia (List.replicate n z).flatten (ps.map fun p=>(p.1*z.length,z.length,Ab e p.2)) with
  | none=>rw[hf]at h;simp at h
  | some cs=>
   rw[hf]at h;simp only[Db]at h ⊢
   split at h
   .rename_i hs;cases h;exact⟨rfl,fun σ'=>by rw[if_pos hs]⟩
   .cases h
 | mkf f a c=>
  simp only[Ae]at h ⊢
  split at h
  .rename_i hs;cases h;exact⟨rfl,fun σ'=>by rw[if_pos hs]⟩
  .cases h
 | slca l m x lo hi=>
  simp only[Ae]at h ⊢
  split at h
  .simp only[Ef]at h;obtain⟨p,hp,q,hq,h⟩:=h
   split at h
   .rename_i qH;cases h;exact⟨rfl,fun σ'=>by simp[hp,hq,qH]⟩
   .cases h
  .cases h
 | chk x=>
  simp only[Ae]at h ⊢
  split at h
  .cases h;exact⟨rfl,fun _=>rfl⟩
  .cases h;exact⟨rfl,fun _=>rfl⟩
  .cases h
 | bin o x y=>simp only[Ae]at h ⊢;obtain⟨h1,h2⟩:=Vp h;exact⟨h1,fun σ'=>by rw[h2];rfl⟩
 | eq k b x y=>
  simp only[Ae]at h ⊢
  cases hf:M0 k (Ab e x) (Ab e y) with
  | none=>rw[hf]at h;simp at h
  | some z=>rw[hf]at h;simp at h;exact⟨h.2.symm,fun σ'=>by simp[h.1]⟩
 | un o x=>simp only[Ae]at h ⊢;obtain⟨h1,h2⟩:=Vp h;exact⟨h1,fun σ'=>by rw[h2];rfl⟩
 | sap o x=>simp only[Ae]at h ⊢;obtain⟨h1,h2⟩:=Vp h;exact⟨h1,fun σ'=>by rw[h2];rfl⟩
 | cvi k x=>
  simp only[Ae]at h ⊢
  split at h
  .cases h;exact⟨rfl,fun _=>rfl⟩
  .cases h
 | cvs x=>
  simp only[Ae]at h ⊢
  split at h
  .cases h;exact⟨rfl,fun _=>rfl⟩
  .cases h
 | slc m x lo hi m3=>simp only[Ae]at h ⊢;obtain⟨h1,h2⟩:=Vp h;exact⟨h1,fun σ'=>by rw[h2];rfl⟩
 | slcs x lo hi=>simp only[Ae]at h ⊢;obtain⟨h1,h2⟩:=Vp h;exact⟨h1,fun σ'=>by rw[h2];rfl⟩
 | fad o x=>
  simp only[Ae]at h ⊢
  split at h
  .cases h;exact⟨rfl,fun _=>rfl⟩
  .cases h;exact⟨rfl,fun _=>rfl⟩
  .cases h
 | fld o n b x=>
  simp only[Ae]at h ⊢
  split at h
  .split at h
   .rename_i qH;obtain⟨h1,h2⟩:=Vp h;exact⟨h1,fun σ'=>by simp only[if_pos qH,h2];rfl⟩
   .cases h
  .cases h
 | iad m x i=>
  simp only[Ae]at h ⊢
  split at h
  .rename_i t xs e1
   cases hf:Ji xs (Ab e i) with
   | none=>rw[hf]at h;simp at h
   | some r=>
    rw[hf]at h;simp only[Db]at h
    split at h
    .rename_i hr;cases h;exact⟨rfl,fun σ'=>by simp[hf,hr]⟩
    .cases h
  .split at h
   .split at h
    .rename_i hc;cases h;exact⟨rfl,fun σ'=>by simp only[if_pos hc]⟩
    .cases h
   .cases h
  .cases h
 | ida l m one x i=>
  simp only[Ae]at h ⊢
  split at h
  .split at h
   .rename_i hn
    split at h
    .split at h
     .rename_i qH;simp only[Bu]at h;obtain⟨v',h,h2⟩:=h;cases h2;exact⟨rfl,fun τ=>by simp only[if_pos hn,if_pos qH,h,Gb]⟩
     .cases h
    .cases h
   .cases h
  .cases h
 | iar l m x i=>
  simp only[Ae]at h ⊢
  split at h
  .split at h
   .rename_i hn
    split at h
    .cases h;exact⟨rfl,fun _=>by simp only[if_pos hn]⟩
    .cases h;exact⟨rfl,fun _=>by simp only[if_pos hn]⟩
    .cases h
   .cases h
  .cases h
 | idx x i=>
  simp only[Ae]at h ⊢
  split at h
  .rename_i l e1
   cases hf:Ji l (Ab e i) with
   | none=>rw[hf]at h;simp at h
   | some r=>rw[hf]at h;simp at h;exact⟨h.2.symm,fun σ'=>by simp[hf,h.1]⟩
  .cases h
 | ext i x=>
  simp only[Ae]at h ⊢
  split at h
  .rename_i vs e1
   cases hf:vs[i]? with
   | none=>rw[hf]at h;simp at h
   | some r=>rw[hf]at h;simp at h;exact⟨h.2.symm,fun σ'=>by simp[hf,h.1]⟩
  .cases h
 | len x=>
  simp only[Ae]at h ⊢
  split at h
  .cases h;exact⟨rfl,fun _=>rfl⟩
  .cases h;exact⟨rfl,fun _=>rfl⟩
  .cases h;exact⟨rfl,fun _=>rfl⟩
  .cases h
 | cap x=>
  simp only[Ae]at h ⊢
  split at h
  .cases h;exact⟨rfl,fun _=>rfl⟩
  .cases h
 | lens x=>
  simp only[Ae]at h ⊢
  split at h
  .cases h;exact⟨rfl,fun _=>rfl⟩
  .cases h
 | mx x y=>
  simp only[Ae]at h ⊢
  split at h
  .split at h
   .rename_i hk;cases h;exact⟨rfl,fun _=>by simp only[if_pos hk]⟩
   .cases h
  .cases h
 | mn x y=>
  simp only[Ae]at h ⊢
  split at h
  .split at h
   .rename_i hk;cases h;exact⟨rfl,fun _=>by simp only[if_pos hk]⟩
   .cases h
  .cases h
def Amr(σ σ':St):∀ (d:Nat) (v:V),Fa σ [] d v=Fa σ' [] d v
 | 0,_=>rfl
 | d+1,v=>by
  unfold Fa
  split
  .rfl
  .cases v<;>simp
def Axp(σ σ':St)(v:V):Gj σ [] v=Gj σ' [] v:=by
 unfold Gj
 split
 .rfl
 .rw[show Fa σ [] 9=Fa σ' [] 9 from funext (Amr σ σ' 9)]
 .exact Amr σ σ' 9 v
def Yf{σ:St}{args:List V}(h:Ah args=[]):Le σ args=[]:=by
 unfold Le;rw[h];simp[Fl]
def Ab9{σ:St}{args:List V}(h:Ah args=[])(σ':St):Dr σ' args=Dr σ args:=by
 unfold Dr;rw[Yf h,Yf h,show Gj σ' []=Gj σ [] from funext (Axp σ' σ)]
def Ve{σ:St}{args:List V}(h:Ah args=[])(v:V):after σ args v=σ:=by
 unfold after;rw[Yf h]
 split<;>rfl
inductive Stp (T:Nat->Option AF) (pr:Nat->Option (List V->Option V)):AI->Env->St->V->St->Prop
 | off {i:AI} {e:Env} {σ:St}:Cx e i=some false->Stp T pr i e σ .skp σ
 | val {i:AI} {e:Env} {σ σ1:St} {v:V}:Cx e i=some true->Ae i.op e σ=some (v,σ1)->Stp T pr i e σ v σ1
 | prim {d:Option Nat} {g:Option (Nat × Bool)} {f:Nat} {xs:List S} {e:Env} {σ:St} {s:List V->Option V} {vs:List V} {v:V}:Cx e ⟨d,.call f xs,g⟩=some true->pr f=some s->Ah (xs.map (Ab e))=[] ->
   Dr [] (xs.map (Ab e))=some vs->s vs=some v->Stp T pr ⟨d,.call f xs,g⟩ e σ v σ
 | pure {d:Option Nat} {g:Option (Nat × Bool)} {f:Nat} {xs:List S} {e:Env} {σ:St} {vs:List V} {v:V}:Cx e ⟨d,.call f xs,g⟩=some true->Ah (xs.map (Ab e))=[] ->
   Dr [] (xs.map (Ab e))=some vs->Fn T pr f vs v->Stp T pr ⟨d,.call f xs,g⟩ e σ v σ
 | thr {d:Option Nat} {g:Option (Nat × Bool)} {f:Nat} {xs:List S} {e:Env} {σ σ1:St} {F:AF} {v:V}:Cx e ⟨d,.call f xs,g⟩=some true->T f=some F->F.thr=true->F.spec=none->pr f=none ->
   Ev T pr (.fn f (xs.map (Ab e)) σ v σ1)->Stp T pr ⟨d,.call f xs,g⟩ e σ v σ1
 | spec {d:Option Nat} {g:Option (Nat × Bool)} {f:Nat} {xs:List S} {e:Env} {σ σ1:St} {F:AF} {s:List V->St->Option (V × St)} {v:V}:Cx e ⟨d,.call f xs,g⟩=some true->T f=some F->F.thr=true->F.spec=some s->pr f=none ->
   s (xs.map (Ab e)) σ=some (v,σ1)->Stp T pr ⟨d,.call f xs,g⟩ e σ v σ1
 | vprim {d:Option Nat} {g:Option (Nat × Bool)} {f:Nat} {x:S} {xs:List S} {args:List V} {e:Env} {σ:St} {s:List V->Option V} {vs:List V} {v:V}:Cx e ⟨d,.callv x xs,g⟩=some true->B9 e (.callv x xs)=some (f,args)->pr f=some s ->
   Dr σ args=some vs->s vs=some v->Stp T pr ⟨d,.callv x xs,g⟩ e σ v (after σ args v)
 | vpure {d:Option Nat} {g:Option (Nat × Bool)} {f:Nat} {x:S} {xs:List S} {args:List V} {e:Env} {σ:St} {vs:List V} {v:V}:Cx e ⟨d,.callv x xs,g⟩=some true->B9 e (.callv x xs)=some (f,args) ->
   Dr σ args=some vs->Fn T pr f vs v->Stp T pr ⟨d,.callv x xs,g⟩ e σ v (after σ args v)
 | vthr {d:Option Nat} {g:Option (Nat × Bool)} {f:Nat} {x:S} {xs:List S} {args:List V} {e:Env} {σ σ1:St} {F:AF} {v:V}:Cx e ⟨d,.callv x xs,g⟩=some true->B9 e (.callv x xs)=some (f,args)->T f=some F->F.thr=true->F.spec=none ->
   Ev T pr (.fn f args σ v σ1)->Stp T pr ⟨d,.callv x xs,g⟩ e σ v σ1
def Stp.ev{i:AI}{l:List AI}{e e':Env}{σ σ1 σ':St}{v:V}(h:Stp T pr i e σ v σ1)(g:Ev T pr (.ops l (e.putO i.dst v) σ1 e' σ')):Ev T pr (.ops (i::l) e σ e' σ'):=by
 cases h with
 | off hw=>exact .opsSkip hw g
 | val hw hv=>exact .opsVal hw hv g
 | prim hw hp hn hx hs=>exact .opsPrim hw rfl hp ((Ab9 hn _).trans hx) hs (by rw[Ve hn];exact g)
 | pure hw hn hx hf=>
  obtain⟨F,h1,h2,qc,v0,σ0,h3,h4⟩:=hf;exact .opsPure hw rfl h1 h2 qc ((Ab9 hn _).trans hx) h3 h4 (by rw[Ve hn];exact g)
 | thr hw h1 h2 qc _ h3=>exact .opsThr hw rfl h1 h2 qc h3 g
 | spec hw h1 h2 qc _ h3=>exact .opsSpec hw rfl h1 h2 qc h3 g
 | vprim hw hc hp hx hs=>exact .opsPrim hw hc hp hx hs g
 | vpure hw hc hx hf=>
  obtain⟨F,h1,h2,qc,v0,σ0,h3,h4⟩:=hf;exact .opsPure hw hc h1 h2 qc hx h3 h4 g
 | vthr hw hc h1 h2 qc h3=>exact .opsThr hw hc h1 h2 qc h3 g
def Al5{e e':Env}{i:AI}(h:Agree e e' i.rd):Cx e i=Cx e' i:=by
 unfold Cx
 cases hg:i.g with
 | none=>rfl
 | some p=>
  obtain⟨t,b⟩:=p;have:=h t (by simp[AI.rd,hg]);simp only[this]
def Abd{e e':Env}{x:S}{xs:List S}(h:Agree e e' (AO.callv x xs).rd):B9 e (.callv x xs)=B9 e' (.callv x xs):=by
 have h':Agree e e' (x.rd++xs.flatMap S.rd):=h;simp only[B9];rw[Ca h'.l,Pf h'.r]
def Stp.move{i:AI}{e e':Env}{σ σ1:St}{v:V}(h:Stp T pr i e σ v σ1)(ha:Agree e e' i.rd):
  Stp T pr i e' σ v σ1/\(F8 T pr i.op≠2->σ1=σ)/\(F8 T pr i.op=0->∀ σ',Stp T pr i e' σ' v σ') /\
  (∀ n one x,i.op=.load n one x->∀ σ',Ib σ' n one (Ab e x)=Ib σ n one (Ab e x)->Stp T pr i e' σ' v σ'):=by
 have hw:=Al5 ha
 cases h with
 | off h=>exact⟨.off (hw ▸ h),fun _=>rfl,fun _ σ'=>.off (hw ▸ h),fun _ _ _ _ σ' _=>.off (hw ▸ h)⟩
 | val h hv=>
  have he:=Anu (op:=i.op) ha.l;refine⟨.val (hw ▸ h) (he σ ▸ hv),fun hc=>?_,fun hc σ'=>?_,fun n one x qk σ' hl=>?_⟩
  .by_cases h0:F8 T pr i.op=0
   .exact(Abj h0 hv).1
   .cases qk:i.op with
    | load n one x=>
     rw[qk]at hv;simp only[Ae,Bu]at hv;obtain⟨_,_,h⟩:=hv;cases h;rfl
    | _=>rw[qk]at h0 hc hv;simp[F8]at h0 hc<;>simp[Ae]at hv
  .exact .val (hw ▸ h) (he σ' ▸ (Abj hc hv).2 σ')
  .refine .val (hw ▸ h) (he σ' ▸ ?_);rw[qk]at hv ⊢;simp only[Ae]at hv ⊢;rw[hl]
   cases qE:Ib σ n one (Ab e x) with
   | none=>rw[qE]at hv;simp at hv
   | some y=>rw[qE]at hv;simp at hv;simp[hv.1]
 | prim h hp hn hx hs=>
  have hm:=Pf (xs:=_) (show Agree e e' _ from ha.l);rw[hm]at hx hn;exact⟨.prim (hw ▸ h) hp hn hx hs,fun _=>rfl,fun _ σ'=>.prim (hw ▸ h) hp hn hx hs,fun _ _ _ qk=>by cases qk⟩
 | pure h hn hx hf=>
  have hm:=Pf (xs:=_) (show Agree e e' _ from ha.l);rw[hm]at hx hn;exact⟨.pure (hw ▸ h) hn hx hf,fun _=>rfl,fun _ σ'=>.pure (hw ▸ h) hn hx hf,fun _ _ _ qk=>by cases qk⟩
 | spec h h1 h2 qc hp h3=>
  have hm:=Pf (xs:=_) (show Agree e e' _ from ha.l);rw[hm]at h3;refine⟨.spec (hw ▸ h) h1 h2 qc hp h3,fun hc=>?_,fun hc=>?_,fun _ _ _ qk=>by cases qk⟩
  .simp[F8,hp,h1,h2]at hc
  .simp[F8,hp,h1,h2]at hc
 | thr h h1 h2 qc hp h3=>
  have hm:=Pf (xs:=_) (show Agree e e' _ from ha.l);rw[hm]at h3;refine⟨.thr (hw ▸ h) h1 h2 qc hp h3,fun hc=>?_,fun hc=>?_,fun _ _ _ qk=>by cases qk⟩
  .simp[F8,hp,h1,h2]at hc
  .simp[F8,hp,h1,h2]at hc
 | vprim h hc hp hx hs=>exact⟨.vprim (hw ▸ h) (by rw[<-Abd ha.l];exact hc) hp hx hs,fun hc=>by simp[F8]at hc,fun hc=>by simp[F8]at hc,fun _ _ _ qk=>by cases qk⟩
 | vpure h hc hx hf=>exact⟨.vpure (hw ▸ h) (by rw[<-Abd ha.l];exact hc) hx hf,fun hc=>by simp[F8]at hc,fun hc=>by simp[F8]at hc,fun _ _ _ qk=>by cases qk⟩
 | vthr h hc h1 h2 qc h3=>exact⟨.vthr (hw ▸ h) (by rw[<-Abd ha.l];exact hc) h1 h2 qc h3,fun hc=>by simp[F8]at hc,fun hc=>by simp[F8]at hc,fun _ _ _ qk=>by cases qk⟩
variable {T:Nat->Option AF} {pr:Nat->Option (List V->Option V)}
def Ey(qa:List (List Nat)):Nat->Nat->Nat->Bool
 | 0,_,_=>false
 | f+1,j,i=>(qa.getD j []).any fun d=>d==i||Ey qa f d i
def Bd4(T:Nat->Option AF)(pr:Nat->Option (List V->Option V))(x y:AI):Bool:=
 (match x.dst with
  | some d=>!y.rd.elem d&&!(y.dst==some d)
  | none=>true)&&((match y.dst with
  | some d=>!x.rd.elem d
  | none=>true)&&!(F8 T pr x.op==2&&F8 T pr y.op==2))
def A5y(T:Nat->Option AF)(pr:Nat->Option (List V->Option V))(qa:List (List Nat))(ops:List AI):Bool:=
 qa.length==ops.length&&(List.range ops.length).all fun j=>((qa.getD j []).all fun d=>decide (d<j))&&(List.range j).all fun i=>Ey qa ops.length j i||(match ops[i]?,ops[j]? with
  | some x,some y=>Bd4 T pr x y
  | _,_=>false)
variable {T:Nat->Option AF} {pr:Nat->Option (List V->Option V)}
def Anv:∀ (n:Nat) (l:List Nat),l.Nodup->(∀ x∈l,x<n)->l.length<=n
 | 0,[],_,_=>Ai _
 | 0,x::_,_,h=>absurd (h x (by simp)) (by omega)
 | n+1,l,hn,h=>by
  have h1:=Anv n (l.erase n) (hn.erase n) (fun x hx=>by
   have:=(List.Nodup.mem_erase_iff hn).1 hx;have:=h x this.2
   omega)
  rw[List.length_erase]at h1
  split at h1<;>omega
def Abn:∀ (n:Nat) (l:List Nat),(∀ j,j<n->j∈l)->n<=l.length
 | 0,_,_=>Au _
 | n+1,l,h=>by
  have h1:=Abn n (l.erase n) (fun j hj=>(List.mem_erase_of_ne (by omega)).2 (h j (by omega)));have hn:=h n (by omega);rw[List.length_erase,if_pos hn]at h1;have:=Afq hn;omega
def Atd{n:Nat}{l:List Nat}(hn:l.Nodup)(h:∀ x∈l,x<n)(hl:l.length=n){j:Nat}(hj:j<n):j∈l:=by
 rcases Classical.em (j∈l) with h' | h'
 .exact h'
 .have:=Anv n (j::l) (Af4.2 ⟨h',hn⟩) (fun x hx=>by
   rcases Bj.1 hx with rfl | hx
   .exact hj
   .exact h x hx)
  simp at this;omega
def Nl(qa:List (List Nat)):Nat->Nat->List Nat->List Nat
 | 0,_,_=>[]
 | fuel+1,t,qe=>
  match ((List.range qa.length).filter (Lt qa qe))[t % ((List.range qa.length).filter (Lt qa qe)).length]? with
  | some i=>i::Nl qa fuel (t / ((List.range qa.length).filter (Lt qa qe)).length) (i::qe)
  | none=>[]
def Ahm(qa:List (List Nat)):∀ (fuel t:Nat) (qe:List Nat),Ot qa fuel t qe=qe.reverse++Nl qa fuel t qe
 | 0,_,qe=>by simp[Ot,Nl]
 | fuel+1,t,qe=>by
  unfold Ot Nl;simp only
  split
  .rename_i i hi;rw[Ahm qa fuel _ (i::qe),hi];simp
  .rename_i hi;rw[hi];simp
section
variable {qa:List (List Nat)} {ops:List AI} {e e1:Env} {σ σ1:St} {jp:Nat->Env} {st:Nat->St} {val:Nat->V}
def DC(qa:List (List Nat))(qe:List Nat):Prop:=∀ j∈qe,∀ d∈qa.getD j [],d∈qe
def Q9{qe:List Nat}(h:DC qa qe):∀ (f j i:Nat),Ey qa f j i=true->j∈qe->i∈qe
 | 0,_,_,hb,_=>by simp[Ey]at hb
 | f+1,j,i,hb,hj=>by
  simp only[Ey,N5,Il,beq_iff_eq]at hb;obtain⟨d,hd,hb⟩:=hb;have qR:=h j hj d hd;rcases hb with rfl | hb
  .exact qR
  .exact Q9 h f d i hb qR
def Vf{qe:List Nat}(h:DC qa qe){f j i:Nat}(hr:∀ d∈qa.getD j [],d∈qe)(hb:Ey qa f j i=true):i∈qe:=by
 cases f with
 | zero=>simp[Ey]at hb
 | succ f=>
  simp only[Ey,N5,Il,beq_iff_eq]at hb;obtain⟨d,hd,hb⟩:=hb;rcases hb with rfl | hb
  .exact hr d hd
  .exact Q9 h f d i hb (hr d hd)
def Nq(ops:List AI)(j:Nat):Option Nat:=(ops[j]?).bind (·.dst)
def EnvOK(ops:List AI)(val:Nat->V)(e:Env)(M:Nat->Prop)(E:Env):Prop:=
 ∀ t,(∃ j,M j/\Nq ops j=some t/\(∀ j',M j'->Nq ops j'=some t->j'<=j)/\E.get t=val j)\/((∀ j,M j->Nq ops j≠some t)/\E.get t=e.get t)
def EnvOK.put{M:Nat->Prop}{E:Env}{i:Nat}{x:AI}(h:EnvOK ops val e M E)(hx:ops[i]?=some x)(qq:∀ j t,M j->x.dst=some t->Nq ops j=some t->j<i):EnvOK ops val e (fun j=>j=i\/M j) (E.putO x.dst (val i)):=by
 intro t;have qF:Nq ops i=x.dst:=by simp[Nq,hx]
 cases hd:x.dst with
 | none=>
  simp only[Env.putO];rcases h t with⟨j,h1,h2,h3,h4⟩ | ⟨h1,h2⟩
  .exact .inl ⟨j,.inr h1,h2,fun j' qo ht=>by
    rcases qo with rfl | qo
    .rw[qF,hd]at ht;cases ht
    .exact h3 j' qo ht,h4⟩
  .exact .inr ⟨fun j hj=>by
    rcases hj with rfl | hj
    .rw[qF,hd];simp
    .exact h1 j hj,h2⟩
 | some d=>
  simp only[Env.putO];rw[Env.get_put];by_cases qK:d=t
  .subst qK;rw[if_pos rfl]
   exact .inl ⟨i,.inl rfl,by rw[qF,hd],fun j' qo ht=>by
    rcases qo with rfl | qo
    .exact Ai _
    .exact N6 (qq j' d qo hd ht),rfl⟩
  .rw[if_neg qK];rcases h t with⟨j,h1,h2,h3,h4⟩ | ⟨h1,h2⟩
   .exact .inl ⟨j,.inr h1,h2,fun j' qo ht=>by
     rcases qo with rfl | qo
     .rw[qF,hd]at ht;cases ht;exact absurd rfl qK
     .exact h3 j' qo ht,h4⟩
   .exact .inr ⟨fun j hj=>by
     rcases hj with rfl | hj
     .rw[qF,hd];intro h;cases h;exact qK rfl
     .exact h1 j hj,h2⟩
def EnvOK.same{M M':Nat->Prop}{E E':Env}(h:EnvOK ops val e M E)(h':EnvOK ops val e M' E'){t:Nat}(ht:∀ j,Nq ops j=some t->(M j↔M' j)):E.get t=E'.get t:=by
 rcases h t with⟨j,h1,h2,h3,h4⟩ | ⟨h1,h2⟩
 .rcases h' t with⟨k,k1,k2,k3,k4⟩ | ⟨k1,k2⟩
  .have a1:=h3 k ((ht k k2).2 k1) k2;have a2:=k3 j ((ht j h2).1 h1) h2;rw[h4,k4,Nat.le_antisymm a2 a1]
  .exact absurd h2 (k1 j ((ht j h2).1 h1))
 .rcases h' t with⟨k,k1,k2,k3,k4⟩ | ⟨k1,k2⟩
  .exact absurd k2 (h1 k ((ht k k2).2 k1))
  .rw[h2,k2]
def EnvOK.iff{M M':Nat->Prop}{E:Env}(h:EnvOK ops val e M E)(hm:∀ j,M j↔M' j):EnvOK ops val e M' E:=by
 have:M=M':=funext fun j=>propext (hm j)
 rw[<-this];exact h
end
variable {T:Nat->Option AF} {pr:Nat->Option (List V->Option V)}
def rwB(T:Nat->Option AF)(pr:Nat->Option (List V->Option V))(x y:AI):Bool:=!((F8 T pr x.op==1&&F8 T pr y.op==2)||(F8 T pr x.op==2&&F8 T pr y.op==1))
def Bd5(T:Nat->Option AF)(pr:Nat->Option (List V->Option V))(qa:List (List Nat))(ops:List AI):Bool:=
 A5y T pr qa ops&&(List.range ops.length).all fun j=>(List.range j).all fun i=>Ey qa ops.length j i||(match ops[i]?,ops[j]? with
  | some x,some y=>rwB T pr x y
  | _,_=>false)
section
variable {Q:Env->St->Prop} {e:Env} {σ:St}
end
variable {T:Nat->Option AF} {pr:Nat->Option (List V->Option V)}
abbrev Lf:=List It->Env->St->Option (Env × St)
abbrev P8:=Nat->List V->St->Option (V × St)
def Av0(F:AF)(n:Nat)(p:Env × St):Option (V × St):=(Cd p.1 p.2 F.res).bind fun v=>leave n v p.2
def Jz(rc:Lf)(F:AF)(vs:List V)(σ:St):Option (V × St):=
 if vs.length=F.pars then(rc [.c F.body] (Dd 0 vs) σ).bind (Av0 F σ.length) else none
def Zu(rc:Lf)(F:AF)(args:List V)(σ:St):Option (V × St):=
 (Dr σ args).bind fun ws=>(Jz rc F ws []).bind fun p=>(Ex p.2 p.1).map fun v=>(v,after σ args v)
def Nr(T:Nat->Option AF)(pr:Nat->Option (List V->Option V))(rc:Lf)(qb:Bool):P8:=fun f args σ=>
 match pr f with
 | some s=>if qb&&!(Ah args).isEmpty then none else(Dr σ args).bind fun ws=>(s ws).map fun v=>(v,after σ args v)
 | none=>match T f with
  | none=>none
  | some F=>match F.thr,F.spec with
   | true,some s=>s args σ
   | true,none=>Jz rc F args σ
   | false,none=>if qb&&!(Ah args).isEmpty then none else Zu rc F args σ
   | false,some _=>none
def Aro:AO->Bool
 | .callv _ _=>true
 | _=>false
def Zf:AO->Bool
 | .call _ _ | .callv _ _=>true
 | _=>false
def Uu(rf:Bool->P8)(qb:Bool)(op:AO)(e:Env)(σ:St):Option (V × St):=
 if Zf op then(if qb&&Aro op then none else(B9 e op).bind fun p=>rf qb p.1 p.2 σ) else Ae op e σ
def R5(rf:Bool->P8)(qb:Bool):List AI->Env->St->Option (Env × St)
 | [],e,σ=>some (e,σ)
 | i::l,e,σ=>match Cx e i with
  | some true=>(Uu rf qb i.op e σ).bind fun p=>R5 rf qb l (e.putO i.dst p.1) p.2
  | some false=>R5 rf qb l (e.putO i.dst .skp) σ
  | none=>none
def Au4:V->Option Bool
 | .bool b=>some b
 | _=>none
/-! more steps give no other result -/
def LeC(a b:Lf):Prop:=∀ k e σ r,a k e σ=some r->b k e σ=some r
def LeF(a b:Bool->P8):Prop:=∀ s f vs σ r,a s f vs σ=some r->b s f vs σ=some r
def LeC.body{a b:Lf}(h:LeC a b){F:AF}{vs:List V}{σ:St}{r:V × St}(hr:Jz a F vs σ=some r):Jz b F vs σ=some r:=by
 unfold Jz at hr ⊢
 split at hr
 .rename_i hl;rw[if_pos hl];obtain⟨p,hp,hr⟩:=Ef.1 hr;rw[h _ _ _ _ hp];exact hr
 .cases hr
def LeC.pure{a b:Lf}(h:LeC a b){F:AF}{vs:List V}{σ:St}{r:V × St}(hr:Zu a F vs σ=some r):Zu b F vs σ=some r:=by
 unfold Zu at hr ⊢;obtain⟨ws,hw,hr⟩:=Ef.1 hr;obtain⟨p,hp,hr⟩:=Ef.1 hr;rw[hw,Db,h.body hp];exact hr
def LeC.call{a b:Lf}(h:LeC a b):LeF (Nr T pr a) (Nr T pr b):=by
 intro s f vs σ r hr;unfold Nr at hr ⊢
 split at hr
 .exact hr
 .split at hr
  .cases hr
  .split at hr
   .exact hr
   .exact h.body hr
   .split at hr
    .cases hr
    .rename_i hs;rw[if_neg hs];exact h.pure hr
   .cases hr
def LeF.op{a b:Bool->P8}(h:LeF a b){s:Bool}{op:AO}{e:Env}{σ:St}{r:V × St}(hr:Uu a s op e σ=some r):Uu b s op e σ=some r:=by
 unfold Uu at hr ⊢
 split at hr
 .rename_i hc;rw[if_pos hc]
  split at hr
  .cases hr
  .rename_i hs;rw[if_neg hs];obtain⟨p,hp,hr⟩:=Ef.1 hr;rw[hp,Db];exact h _ _ _ _ _ hr
 .rename_i hc;rw[if_neg hc];exact hr
def LeF.ops{a b:Bool->P8}(h:LeF a b){s:Bool}:∀ {l:List AI} {e:Env} {σ:St} {r:Env × St},R5 a s l e σ=some r->R5 b s l e σ=some r
 | [],_,_,_,hr=>hr
 | i::l,e,σ,r,hr=>by
  unfold R5 at hr ⊢
  split at hr
  .obtain⟨p,hp,hr⟩:=Ef.1 hr;rw[h.op hp];exact h.ops hr
  .exact h.ops hr
  .cases hr
/-! what the function gives comes of the code -/
def Ub(T:Nat->Option AF)(pr:Nat->Option (List V->Option V)):AC->Bool
 | .drw _ qa ops=>Bd5 T pr qa ops
 | .seq a b=>Ub T pr a&&Ub T pr b
 | .cond _ _ a b=>Ub T pr a&&Ub T pr b
 | .blk _ c=>Ub T pr c
 | .loop _ c=>Ub T pr c
 | _=>true
section
variable (qL:∀ f F,T f=some F->F.spec=none->Ub T pr F.body=true)
def A18{n:Nat}{v v':V}{σ1 σ':St}(h:leave n v σ1=some (v',σ')):(Cm v=true/\E4 n [] v.refs=true/\(∀ i ob,i<n->σ1[i]?=some ob->E4 n [] ob.refs=true)/\v'=v/\σ'=σ1.take n)\/∃ js,H2 n js v σ1=true/\v'=v.ren (ren n js)/\σ'=(σ1.take n++js.filterMap (σ1[·]?)).map (Ob.ren (ren n js)):=by
 unfold leave at h
 split at h
 .rename_i hn;cases h;unfold Ang at hn;simp only[Af,Bp]at hn;exact .inl ⟨hn.1,hn.2.1,fun i ob hi ho=>hn.2.2 ob (Ge (by rw[F5,if_pos hi];exact ho)),rfl,rfl⟩
 .simp only at h
  split at h
  .rename_i hs;cases h;exact .inr ⟨_,hs,rfl,rfl⟩
  .cases h
inductive CallR (T:Nat->Option AF) (pr:Nat->Option (List V->Option V)) (qb:Bool) (f:Nat) (args:List V) (σ:St):V->St->Prop
 | prim {s:List V->Option V} {ws:List V} {v:V}:pr f=some s->(qb=true->Ah args=[])->Dr σ args=some ws->s ws=some v->CallR T pr qb f args σ v (after σ args v)
 | pure {ws:List V} {v:V}:(qb=true->Ah args=[])->Dr σ args=some ws->Fn T pr f ws v->CallR T pr qb f args σ v (after σ args v)
 | thr {F:AF} {v:V} {σ1:St}:pr f=none->T f=some F->F.thr=true->F.spec=none->Ev T pr (.fn f args σ v σ1)->CallR T pr qb f args σ v σ1
 | spec {F:AF} {s:List V->St->Option (V × St)} {v:V} {σ1:St}:pr f=none->T f=some F->F.thr=true->F.spec=some s->s args σ=some (v,σ1)->CallR T pr qb f args σ v σ1
include qL in
def Arp{rf:Bool->P8}{s:Bool}{op:AO}{e:Env}{σ:St}{r:V × St}(h:Uu rf s op e σ=some r):(Zf op=false/\Ae op e σ=some r)\/∃ f args,B9 e op=some (f,args)/\rf s f args σ=some r/\(s=true->∃ xs,op=.call f xs/\args=xs.map (Ab e)):=by
 unfold Uu at h
 split at h
 .rename_i hc
  split at h
  .cases h
  .rename_i hs;obtain⟨⟨f,args⟩,hp,h⟩:=Ef.1 h;refine .inr ⟨f,args,hp,h,fun qL=>?_⟩;subst qL
   cases op with
   | call f' xs=>
    simp only[B9]at hp;cases hp;exact⟨xs,rfl,rfl⟩
   | callv x xs=>simp[Aro]at hs
   | _=>simp[Zf]at hc
 .rename_i hc;exact .inl ⟨by simpa using hc,h⟩
include qL in
end
