/- THE PLAIN MACHINE, joined texts: Kr Kt Ks Ku Kv Kw Kx. -/
import Derived.Test.YthlbbjcbmojocabGreatDoorA2
import Derived.Scope
set_option linter.all false
/- THE PLAIN MACHINE IS RIGHT: the theorem. -/
namespace Go.Proofs.YthlbbjcbmojocabGreatDoor.KM
open Go Go.RowKit
variable {P:Program} {G:List (Nat × List V)} {T:Nat->Option AF} {pr:Nat->Option (List V->Option V)}
def Amc{n:Nat}{ops:Array Oper}:∀ (qi:List AI) (os:List Oper) (k:Nat),Jx P G n ops qi os=true->ops.toList.drop k=os->ML P G n ops qi (List.range' k os.length)
 | [],[],_,_,_=>trivial
 | i::qi,o::os,k,h,hd=>by
  simp only[Jx,Af]at h
  have hk:ops[k]?=some o:=by
   have:(ops.toList.drop k)[0]?=some o:=by rw[hd];rfl
   simpa using this
  refine⟨⟨o,hk,h.1⟩,Amc qi os (k+1) h.2 ?_⟩;rw[<-Oj,hd];rfl
 | [],_::_,_,h,_=>by simp[Jx]at h
 | _::_,[],_,h,_=>by simp[Jx]at h
def Ak0{n:Nat}{ops:Array Oper}:∀ {qi:List AI} {os:List Oper},Jx P G n ops qi os=true->qi.length=os.length/\∀ (i:Nat) (o:Oper),os[i]?=some o->∃ ai,qi[i]?=some ai/\Vt P G n ops ai o=true
 | [],[],_=>⟨rfl,fun i o h=>by simp at h⟩
 | a::qi,o::os,h=>by
  simp only[Jx,Af]at h;obtain⟨l,g⟩:=Ak0 h.2;refine⟨by simp[l],fun i o' ho=>?_⟩
  cases i with
  | zero=>simp at ho;subst ho;exact⟨a,rfl,h.1⟩
  | succ i=>simpa using g i o' (by simpa using ho)
 | [],_::_,h=>by simp[Jx]at h
 | _::_,[],h=>by simp[Jx]at h
def Aoe{n:Nat}{ops:Array Oper}{qi:List AI}(h:Jx P G n ops qi ops.toList=true):∀ (L:List Nat),(∀ i∈L,i<ops.size)->ML P G n ops (Dk qi L) L
 | [],_=>trivial
 | j::L,hL=>by
  have hj:=hL j (by simp);obtain⟨ai,h1,h2⟩:=(Ak0 h).2 j ops[j] (by simp[hj]);unfold Dk;rw[Lj,h1];exact⟨⟨ops[j],Array.getElem?_eq_getElem hj,h2⟩,Aoe h L (fun i hi=>hL i (by simp[hi]))⟩
def Ap7(qa:List (List Nat)):∀ (fuel t:Nat) (qe:List Nat),(∀ i∈qe,i<qa.length)->∀ i∈Nx qa fuel t qe,i<qa.length
 | 0,_,qe,h=>fun i hi=>h i (by simpa[Nx] using hi)
 | fuel+1,t,qe,h=>by
  intro i hi;unfold Nx at hi;simp only at hi
  split at hi
  .rename_i j hj;refine Ap7 qa fuel _ (j::qe) (fun k hk=>?_) i hi;rcases Bi.1 hk with rfl | hk
   .have:=(Tl.1 (Hx hj)).1;simpa using this
   .exact h k hk
  .exact h i (by simpa using hi)
def Aj6:∀ (vs:List V) (k n:Nat),(Da k vs).get n=if k<=n then vs.getD (n - k) .und else .und
 | [],k,n=>by simp[Da,Env.get]
 | v::vs,k,n=>by
  simp only[Da,Env.get];by_cases h:k=n
  .subst h;simp
  .rw[if_neg h,Aj6 vs (k+1) n];by_cases h2:k+1<=n
   .rw[if_pos h2,if_pos (by omega)];rw[show n - k=(n - (k+1))+1 by omega];simp
   .rw[if_neg h2];rw[if_neg (by omega)]
section
variable {n:Nat} {c:Code}
def Aw5(h:Du P G n .skip c=true):c=.skip\/∃ l,c=.label l:=by
 cases c<;>simp[Du]at h
 .exact .inl rfl
 .exact .inr ⟨_,rfl⟩
def Avb{b:Frame}{a:Act}{k:List Item}{cs:List Frame}{w:World}(h:c=.skip\/∃ l,c=.label l):step P (lone (b.at a (.code c::k)) cs w)=.next (lone (b.at a k) cs w):=by
 rcases h with rfl | ⟨l,rfl⟩
 .exact step_skip
 .exact step_label
def A0k{kill:List Nat}{qi:List AI}(h:Du P G n (.reg kill qi) c=true):∃ id ops,c=.region id ops false/\Jx P G n ops qi ops.toList=true:=by
 cases c with
 | region id ops d=>
  cases d with
  | false=>exact⟨id,ops,rfl,h⟩
  | true=>cases h
 | _=>cases h
def A0l{kill:List Nat}{qa:List (List Nat)}{qi:List AI}(h:Du P G n (.drw kill qa qi) c=true):∃ id ops,c=.region id ops true/\Jx P G n ops qi ops.toList=true/\Oz qa ops.toList=true/\P.follows .mixedOrders=true:=by
 cases c with
 | region id ops d=>
  cases d with
  | false=>cases h
  | true=>
   simp only[Du,Af]at h;exact⟨id,ops,rfl,h⟩
 | _=>cases h
def A0m{x y:AC}(h:Du P G n (.seq x y) c=true):∃ c1 c2,c=.seq c1 c2/\Du P G n x c1=true/\Du P G n y c2=true:=by
 cases c<;>simp[Du]at h
 exact⟨_,_,rfl,h⟩
def Aw6{s:S}{kill:List Nat}{x y:AC}(h:Du P G n (.cond s kill x y) c=true):∃ o c1 c2,c=.cond o c1 c2/\Bs G s o=true/\Du P G n x c1=true/\Du P G n y c2=true:=by
 cases c<;>simp[Du]at h
 exact⟨_,_,_,rfl,h⟩
def A0n{id:Nat}{x:AC}(h:Du P G n (.blk id x) c=true):(∃ c1,c=.block id c1/\Du P G n x c1=true)\/∃ c1,c=.scope c1/\1000000<=id/\Du P G n x c1=true:=by
 cases c<;>simp[Du]at h
 .obtain⟨rfl,h⟩:=h;exact .inl ⟨_,rfl,h⟩
 .exact .inr ⟨_,rfl,h⟩
def Aw7{keep:List Nat}{x:AC}(h:Du P G n (.loop keep x) c=true):∃ c1,c=.loop c1/\Du P G n x c1=true:=by
 cases c<;>simp[Du]at h
 exact⟨_,rfl,h⟩
def Aw8{id:Nat}(h:Du P G n (.exit id) c=true):c=.exit id/\id<1000000:=by
 cases c<;>simp[Du]at h
 obtain⟨rfl,h⟩:=h;exact⟨rfl,h⟩
def A0o(h:Du P G n .ret c=true):c=.ret:=by cases c<;>simp[Du]at h;rfl
end
def Ext.len{N:Nat}{γ γ':Gh}{σ σ':St}{w w':World}(hI:Inv G N γ σ w)(h:Inv G N γ' σ' w')(hx:Ext γ w γ' w'):σ.length<=σ'.length:=by
 rw[<-hI.len,<-h.len];rcases Wc γ.O.length with h0 | h0
 .omega
 .obtain⟨b1,g1,h1,_⟩:=hx.obj (γ.O.length - 1) (γ.O[γ.O.length - 1]'(by omega)).1 (γ.O[γ.O.length - 1]'(by omega)).2 (A2 _);have:=(Aq.1 h1).1;omega
def Ak1{N:Nat}{γ γ':Gh}{σ:St}{w w':World}{X:List (Nat × Nat)}(hI:Inv G N γ σ w)(hx:Ext γ w γ' w'):Ext γ w ⟨γ'.κ,γ'.O.take σ.length++X⟩ w':=
 ⟨hx.kap,hx.cell,fun i blk g hi=>by
  obtain⟨b1,g1,h1,h2,h3⟩:=hx.obj i blk g hi;have jc:i<σ.length:=by rw[<-hI.len];exact(Aq.1 hi).1
  refine⟨b1,g1,?_,h2,h3⟩;show(γ'.O.take σ.length++X)[i]?=_;rw[Ca (by have:=(Aq.1 h1).1;simp;omega),Fi,if_pos jc]
  exact h1⟩
def Z7{n:Nat}{js is:List Nat}(h:Ey n js is=true):∀ i∈is,i<n\/i∈js:=fun i hi=>by
 have:=Bh.1 h i hi;simp only[Ij,decide_eq_true_eq,Hg]at this;exact this
def Ak2{N:Nat}{γ γ':Gh}{σ σ':St}{w w':World}{v:V}{u:Value}(hI:Inv G N γ σ w)(h:Inv G N γ' σ' w')(hx:Ext γ w γ' w')(hv:Ey σ.length [] v.refs=true)
  (hb:∀ i ob,i<σ.length->σ'[i]?=some ob->σ[i]?=some ob\/Ey σ.length [] ob.refs=true) (hr:RepV γ' w' v u) :
  ∃ γ2,RepV γ2 w' v u/\Inv G N γ2 (σ'.take σ.length) w'/\Ext γ w γ2 w'/\∀ b,γ2.κ b=γ'.κ b:=by
 obtain⟨i1,i2⟩:=h.leave (n:=σ.length) (js:=[]) (ρ:=fun i=>i) (Ext.len hI h hx) (fun i hi=>by cases hi) Tm (fun _ _=>rfl) (fun k hk=>by simp at hk) (fun i ob hi ho j hj=>by
  rcases hi with hi | hi
  .rcases hb i ob hi ho with h1 | h1
   .obtain⟨p,_,qd⟩:=hI.of h1;exact .inl (by rw[<-hI.len];exact qd.refs_lt j hj)
   .exact Z7 h1 j hj
  .cases hi)
 have e1:(σ'.take σ.length++([]:List Nat).filterMap (σ'[·]?)).map (Ob.ren fun i=>i)=σ'.take σ.length:=by
  simp only[Zg,Cy];have:(Ob.ren fun i=>i)=id:=funext Akz;rw[this,List.map_id]
 rw[e1]at i1;have qU:=hr.renum (O:=γ'.O.take σ.length++([]:List Nat).filterMap (γ'.O[·]?)) (ρ:=fun i=>i) (fun i hi p hp=>i2 i (Z7 hv i hi) p hp);rw[Agr]at qU;exact⟨_,qU,i1,Ak1 hI hx,fun _=>rfl⟩
def Ak3{N:Nat}{γ γ':Gh}{σ σ':St}{w w':World}{v:V}{u:Value}{js:List Nat}(hI:Inv G N γ σ w)(h:Inv G N γ' σ' w')(hx:Ext γ w γ' w')(hl:Hz σ.length js v σ'=true)(hr:RepV γ' w' v u):
  ∃ γ2,RepV γ2 w' (v.ren (ren σ.length js)) u/\Inv G N γ2 ((σ'.take σ.length++js.filterMap (σ'[·]?)).map (Ob.ren (ren σ.length js))) w'/\Ext γ w γ2 w'/\∀ b,γ2.κ b=γ'.κ b:=by
 unfold Hz at hl;simp only[Af,decide_eq_true_eq,Bh]at hl;obtain⟨_,hv,qN,qS,qR⟩:=hl
 obtain⟨i1,i2⟩:=h.leave (n:=σ.length) (js:=js) (ρ:=ren σ.length js) (Ext.len hI h hx) qR qS (fun i hi=>by simp[ren,hi]) (fun k hk=>by
  have jq:=(qR js[k] (Fj hk)).1;unfold ren;rw[if_neg (by omega)];congr 1;have hf:js.findIdx (·==js[k])<js.length:=List.findIdx_lt_length_of_exists ⟨js[k],Fj hk,by simp⟩;have hg:=List.findIdx_getElem (w:=hf);have jb:js[js.findIdx (·==js[k])]=js[k]:=by simpa using hg
  exact Akt qS (A2 hf) (by rw[jb];exact A2 hk)) (fun i ob hi ho j hj=>by
  refine Z7 (qN ob ?_) j hj;rw[Cr];rcases hi with hi | hi
  .exact .inl (Hx (by rw[Fi,if_pos hi];exact ho))
  .exact .inr (List.mem_filterMap.2 ⟨i,hi,ho⟩))
 exact⟨_,hr.renum (fun i hi p hp=>i2 i (Z7 hv i hi) p hp),i1,Ak1 hI hx,fun _=>rfl⟩
def Om:∀ (js:List Nat) (σ:St),(σ.freeze js).length=σ.length
 | [],_=>rfl
 | i::js,σ=>by
  simp only[St.freeze]
  split
  .rw[Om js,Hy]
  .exact Om js σ
def Aw9{γ:Gh}{w w1:World}{κ:Em}{O:List (Nat × Nat)}(h:Ext γ w ⟨κ,O⟩ w1)(O':List (Nat × Nat)):Ext γ w ⟨κ,O++O'⟩ w1 where
 kap:=h.kap
 cell:=h.cell
 obj:=fun i blk g hi=>by
  obtain⟨b',g',h1,h2,h3⟩:=h.obj i blk g hi;exact⟨b',g',by rw[Ca (Aq.1 h1).1];exact h1,h2,h3⟩
def Axa{N M:Nat}{O:List (Nat × Nat)}{γ':Gh}{σ σ0:St}{w1:World}(h1:Inv G N ⟨γ'.κ,O⟩ σ w1)(h2:Inv G M γ' σ0 w1)(hM:∀ (i:Nat) (p:Nat × Nat),O[i]?=some p->p.1<M)(qZ:N<=M):
  Inv G N ⟨γ'.κ,O++γ'.O⟩ (σ++σ0.map (Ob.ren (·+σ.length))) w1 where
 base:=h1.base
 len:=by
  have e1:=h1.len;have e2:=h2.len;simp only[Aj,Ba]at e1 ⊢;omega
 nd:=by
  rw[Ei,List.nodup_append];refine⟨h1.nd,h2.nd,fun a ha b hb=>?_⟩;obtain⟨p,hp,rfl⟩:=De.1 ha;obtain⟨q,hq,rfl⟩:=De.1 hb;obtain⟨i,hi,rfl⟩:=Pq hp;obtain⟨j,hj,rfl⟩:=Pq hq;have:=hM i _ (A2 hi);have:=h2.low j _ (A2 hj);omega
 low:=fun i p hp=>by
  by_cases hi:i<O.length
  .exact h1.low i p (by rw[Ca hi]at hp;exact hp)
  .rw[Cd (by omega)]at hp;exact Cz qZ (h2.low _ p hp)
 obj:=fun i ob p hs hp=>by
  have hl:O.length=σ.length:=h1.len;by_cases hi:i<σ.length
  .rw[Ca hi]at hs;rw[Ca (by omega)]at hp;have:=(h1.obj i ob p hs hp).renum (O:=O++γ'.O) (ρ:=fun i=>i) (fun j _ q hq=>by rw[Ca (Aq.1 hq).1];exact hq);rw[Akz]at this;exact this
  .rw[Cd (by omega),Av]at hs;rw[Cd (by omega)]at hp;obtain⟨jn,h0,rfl⟩:=Bo.1 hs
   exact(h2.obj _ jn p h0 (by rw[<-hl];exact hp)).renum (O:=O++γ'.O) (ρ:=(·+σ.length)) (fun j _ q hq=>by
    rw[Cd (by omega)];show γ'.O[j+σ.length - O.length]?=some q;rw[hl,Nat.add_sub_cancel]
    exact hq)
 dom:=h1.dom
 glob:=fun g r hg=>by
  obtain⟨b,o,k,row,hu,a1,a2,a3,a4⟩:=Lq (h1.glob g r hg);rw[hu];exact .imm row a1 a2 a3 a4
 gsz:=h1.gsz
def Abc(hT:∀ f F,T f=some F->F.spec=none->Pl P G f F=true){f:Nat}{args:List V}{σ σ' σ2:St}{e':Env}{F:AF}{v v2:V}(hF:T f=some F)(qc:F.spec=none)(hl:args.length=F.pars)(qf:Ch e' σ' F.res=some v)(qr:Cq v=true)
  (hk:∀ (γ γ':Gh) (w w':World) (N:Nat) (u:Value),Inv G N γ σ w->Inv G N γ' σ' w'->Ext γ w γ' w'->RepV γ' w' v u->∃ γ2,RepV γ2 w' v2 u/\Inv G N γ2 σ2 w'/\Ext γ w γ2 w'/\∀ b,b<N->γ2.κ b=γ'.κ b)
  (ih:Ahh P G (.code [.c F.body] (Da 0 args) σ e' σ')):Ahh P G (.fn f args σ v2 σ2):=by
 intro us w γ N qv qO hI;obtain⟨fn,c,hf,hb,hC,hR,qT,hn⟩:=W4 (hT f F hF qc);intro cs
 let b:Frame:={ (default:Frame) with fn:=f,kind:=.normal }
 have jj:(us.toArray++Array.replicate (fn.ntmps - us.toArray.size) undef).size=fn.ntmps:=by simp;omega
 have qA:Frame.enter P f us.toArray .normal=b.at { tmps:=us.toArray++Array.replicate (fn.ntmps - us.toArray.size) undef,defers:=[] } [.code c]:=by
  simp[Frame.enter,Frame.at,hf,hb,b]
 have qX:RepE γ w (Da 0 args) (us.toArray++Array.replicate (fn.ntmps - us.toArray.size) undef):=fun m=>by
  rw[Aj6,if_pos (A0 _),Ad1];by_cases hm:m<args.length
  .have:=qO m hm
   have e1:(us.toArray++Array.replicate (fn.ntmps - us.toArray.size) undef).getD m undef=us.getD m undef:=by
    rw[Array.getD_eq_getD_getElem?,Array.getElem?_append_left (by simp;omega),Rh,Au]
   rw[e1];exact this
  .rw[show args.getD m .und=.und by rw[Au,Ri (by omega)];rfl];exact .und
 obtain⟨a',w',qj,hs,γ',g1,g2,g3,g4,g5,g6,g7⟩:=ih fn.ntmps [] [.code c] { tmps:=us.toArray++Array.replicate (fn.ntmps - us.toArray.size) undef,defers:=[] } w γ N (.c hC .nil) jj rfl qX hI b cs;rw[<-qA]at hs
 have qs:∃ u,(results fn a'.tmps).run P w'=.ok u w'/\RepV γ' w' v u:=by
  have qI:∀ us':List Value,(fn.results.toList.mapM (X0 a'.tmps)).run P w'=.ok us' w'->(results fn a'.tmps).run P w'=.ok (if h:us'.toArray.size=1 then us'.toArray[0] else .tuple us'.toArray) w':=fun us' h=>by
   have e1:results fn a'.tmps=(do let vs <-fn.results.mapM (X0 a'.tmps);pure (if h:vs.size=1 then vs[0] else .tuple vs)):=by
    unfold results;congr 2
   rw[e1,Array.mapM_eq_mapM_toList];simp[h]
  unfold Ch at qf
  split at qf
  .rename_i r jh;rw[jh]at hR;have hm:[r].mapM (F5 e' σ')=some [v]:=by simp[qf]
   obtain⟨us',k1,k2,k3,k4⟩:=Afv (P:=P) g1 g2 hR hm;obtain⟨u,rfl⟩:=List.length_eq_one_iff.1 (show us'.length=1 by simpa using k2.symm);refine⟨u,by simpa using qI [u] k1,?_⟩;simpa using k4 0 (by simp)
  .rename_i rs jf;simp only[Bo]at qf;obtain⟨vs,hm,rfl⟩:=qf;obtain⟨us',k1,k2,k3,k4⟩:=Afv (P:=P) g1 g2 hR hm
   have je:us'.length≠1:=fun h1=>by
    have:F.res.length=1:=by
     have:=(Ou hm).1;omega
    obtain⟨r,hr⟩:=List.length_eq_one_iff.1 this;exact jf r hr
   refine⟨.tuple us'.toArray,by simpa[je] using qI us' k1,.tup k2 (fun j hj=>?_)⟩;refine A0j ?_ (k4 j hj);have:=Bh.1 (show vs.all Iq=true from qr) (vs.getD j .und) (by rw[Au,A2 hj];exact Fj hj);exact this
 obtain⟨u,hu,hv⟩:=qs;obtain⟨γ2,i1,i2,i3,i4⟩:=hk γ γ' w w' N u hI g2 g3 hv;exact⟨.returned u,w',_,⟨u,γ2,rfl,i1,i2,i3,g4,fun b hb=>(i4 b hb).trans (g5 b hb)⟩,hs,rfl,rfl,g7,rfl,fn,hf,hu⟩
def Arq(hT:∀ f F,T f=some F->F.spec=none->Pl P G f F=true)(hS:∀ f F s,T f=some F->F.spec=some s->Vb P G f s)(jg:∀ f s,pr f=some s->Ir P G f s){j:J}(h:Ev T pr j):Ahh P G j:=by
 induction h with
 | opsNil=>
  intro n D ops L a w γ N Q hM ha hd hE hI hQ
  cases L with
  | nil=>exact hQ a w ⟨γ,hE,hI,Ext.refl _ _,Below.refl _ _,fun _ _=>rfl,ha,hd⟩
  | cons=>exact hM.elim
 | opsSkip hw _ ih=>
  intro n D ops L a w γ N Q hM ha hd hE hI hQ;obtain⟨j,js,o,rfl,ho,qd,ql⟩:=hM.tail;obtain⟨k1,k2,k3,k4⟩:=Pr qd;refine A4a ho (Pv k3 ha hE hw) ?_;obtain⟨p1,p2,p3⟩:=P4 (u:=undef) k2 ha hE .skp;rw[k1]at p1 p2 p3;exact ih n D ops js _ w γ N Q ql p2 (p3.trans hd) (by rw[k1];exact p1) hI hQ
 | @opsVal i l e e' σ σ1 σ' v hw hv _ ih=>
  intro n D ops L a w γ N Q hM ha hd hE hI hQ;obtain⟨j,js,o,rfl,ho,qd,ql⟩:=hM.tail;obtain⟨k1,k2,k3,k4⟩:=Pr qd;refine Sh (n:=n) ho (Pv k3 ha hE hw) ?_
  have jm:Vs P G i.op o.op=true:=by
   split at k4
   .rename_i f xs e1;rw[e1]at hv;simp[Ae]at hv
   .rename_i s xs e1;rw[e1]at hv;simp[Ae]at hv
   .exact k4
  obtain⟨u,w1,γ1,hr,jl,qY,qW,ja,jd⟩:=A75 jm hE hI hv;obtain⟨p1,p2,p3⟩:=P4 (u:=u) k2 ha (hE.ext qW) jl
  have next:wpOps P ops Q js (a.put o.dst u) w1:=by
   rw[<-k1];exact ih n D ops js _ w1 γ1 N Q ql p2 (p3.trans hd) p1 qY (fun a' w' hl=>hQ a' w' (hl.after qW ja jd))
  unfold Oper.wp;rcases hr with hr | ⟨hr,rfl⟩
  .rw[hr];exact next
  .rw[hr];exact next
 | @opsPrim i f args l e e' σ σ' s vs v hw hc hp hx hs _ ih=>
  intro n D ops L a w γ N Q hM ha hd hE hI hQ;obtain⟨j,js,o,rfl,ho,qd,ql⟩:=hM.tail;obtain⟨k1,k2,k3,k4⟩:=Pr qd;refine Sh (n:=n) ho (Pv k3 ha hE hw) ?_;obtain⟨⟨fn,c,hf,hb,hn⟩,qJ⟩:=jg f s hp;obtain⟨us,qg,qy,qt⟩:=Tu (ops:=ops) (n:=n) k4 hc hE hI hf hb hn;obtain⟨κ1,z1,z2,z3,z4,_⟩:=hI.freeze (N3 σ args);obtain⟨ml,mg⟩:=Ou hx;unfold Oper.wp;rw[qg];have qD:=Ae7 z1;refine(qJ κ1 w vs us v qD.glob (fun g r hg=>(qD.gsz g r hg).2) z1.dom (by omega) (fun j hj=>?_) hs).mono ?_
  .have qp:j<args.length:=by omega
   obtain⟨y,hy,qG⟩:=mg j _ (A2 qp);rw[show vs.getD j .und=y by rw[Au,hy];rfl];have:=qt j qp;rw[show args.getD j .und=args[j] by rw[Au,A2 qp];rfl]at this;exact Wl hI z2 z4 qG this []
  rintro _ w1 ⟨u,κ',rfl,hu,qm,hk,qL⟩;obtain⟨γ1,q1,q2,q3,q4,q5⟩:=Aj4 (args:=args) hI z1 z2 z3 qm hk qL hu;obtain⟨p1,p2,p3⟩:=P4 (u:=u) k2 ha (hE.ext q2) q3;show wpOps P ops Q js (a.put o.dst u) w1;rw[<-k1];exact ih n D ops js _ w1 _ N Q ql p2 (p3.trans hd) p1 q1 (fun a' w' hl=>hQ a' w' (hl.after q2 q5 q4))
 | @opsPure i f args l e e' σ σ0 σ' F vs v v' hw hc hF hthr qc hx _ hv _ ihf ih=>
  intro n D ops L a w γ N Q hM ha hd hE hI hQ;obtain⟨j,js,o,rfl,ho,qd,ql⟩:=hM.tail;obtain⟨k1,k2,k3,k4⟩:=Pr qd;refine Sh (n:=n) ho (Pv k3 ha hE hw) ?_;obtain⟨fn,c,hf,hb,_,_,_,hn⟩:=W4 (hT f F hF qc);obtain⟨us,qg,qy,qt⟩:=Tu (ops:=ops) (n:=n) k4 hc hE hI hf hb hn;obtain⟨κ1,z1,z2,z3,z4,_⟩:=hI.freeze (N3 σ args);obtain⟨ml,mg⟩:=Ou hx;unfold Oper.wp;rw[qg];have qD:=Ae7 z1;refine(ihf us w ⟨κ1,[]⟩ w.heap.size (by omega) (fun j hj=>?_) qD).mono ?_
  .have qp:j<args.length:=by omega
   obtain⟨y,hy,qG⟩:=mg j _ (A2 qp);rw[show vs.getD j .und=y by rw[Au,hy];rfl];have:=qt j qp;rw[show args.getD j .und=args[j] by rw[Au,A2 qp];rfl]at this;exact .one (Wl hI z2 z4 qG this [])
  rintro _ w1 ⟨u,γ',rfl,hu,qn,qu,qm,hk⟩;obtain⟨κ2,y1,y2,y3,y4,_⟩:=qn.freeze (Fw σ0 9 v.refs.eraseDups);have jk:RepV ⟨κ2,[]⟩ w1 v' u:=Z2 qn y2 y4 hv hu [];obtain⟨γ1,q1,q2,q3,q4,q5⟩:=Aj4 (args:=args) hI z1 z2 z3 qm (fun b qq=>(y3 b qq).trans (hk b qq)) y1.dom jk;obtain⟨p1,p2,p3⟩:=P4 (u:=u) k2 ha (hE.ext q2) q3;show wpOps P ops Q js (a.put o.dst u) w1;rw[<-k1];exact ih n D ops js _ w1 _ N Q ql p2 (p3.trans hd) p1 q1 (fun a' w' hl=>hQ a' w' (hl.after q2 q5 q4))
 | @opsOwn i f args l e e' σ σ0 σ' F vs v hw hc hF hthr qc hx _ _ ihf ih=>
  intro n D ops L a w γ N Q hM ha hd hE hI hQ;obtain⟨j,js,o,rfl,ho,qd,ql⟩:=hM.tail;obtain⟨k1,k2,k3,k4⟩:=Pr qd;refine Sh (n:=n) ho (Pv k3 ha hE hw) ?_;obtain⟨fn,c,hf,hb,_,_,_,hn⟩:=W4 (hT f F hF qc);obtain⟨us,qg,qy,qt⟩:=Tu (ops:=ops) (n:=n) k4 hc hE hI hf hb hn;obtain⟨κ1,z1,z2,z3,z4,_⟩:=hI.freeze (N3 σ args);obtain⟨ml,mg⟩:=Ou hx;unfold Oper.wp;rw[qg];have qD:=Ae7 z1;refine(ihf us w ⟨κ1,[]⟩ w.heap.size (by omega) (fun j hj=>?_) qD).mono ?_
  .have qp:j<args.length:=by omega
   obtain⟨y,hy,qG⟩:=mg j _ (A2 qp);rw[show vs.getD j .und=y by rw[Au,hy];rfl];have:=qt j qp;rw[show args.getD j .und=args[j] by rw[Au,A2 qp];rfl]at this;exact .one (Wl hI z2 z4 qG this [])
  rintro _ w1 ⟨u,γ',rfl,hu,qn,qu,qm,hk⟩;obtain⟨i1,i2⟩:=z1.more (w':=w1) (κ':=γ'.κ) (fun b qq=>qm.block b qq) qm.size hk qn.dom;have qv:(σ.freeze (N3 σ args)).length=σ.length:=Om _ _;have q1:=Axa i1 qn (fun i p hp=>hI.oblt hp) hI.base;rw[qv]at q1;have q2:Ext γ w ⟨γ'.κ,γ.O++γ'.O⟩ w1:=Aw9 (z2.trans i2) _
  have q3:RepV ⟨γ'.κ,γ.O++γ'.O⟩ w1 (v.ren (·+σ.length)) u:=hu.renum (fun i hi p hp=>by
   rw[Cd (by rw[hI.len];omega),hI.len,Nat.add_sub_cancel];exact hp)
  obtain⟨p1,p2,p3⟩:=P4 (u:=u) k2 ha (hE.ext q2) q3;show wpOps P ops Q js (a.put o.dst u) w1;rw[<-k1];exact ih n D ops js _ w1 _ N Q ql p2 (p3.trans hd) p1 q1 (fun a' w' hl=>hQ a' w' (hl.after q2 (qm.mono hI.base) (fun b qq=>(hk b (Te qq hI.base)).trans (z3 b qq))))
 | @opsAny i f args l e e' σ σ1 σ' F v hw hc hF qc _ _ ihf ih=>
  intro n D ops L a w γ N Q hM ha hd hE hI hQ;obtain⟨j,js,o,rfl,ho,qd,ql⟩:=hM.tail;obtain⟨k1,k2,k3,k4⟩:=Pr qd;refine Sh (n:=n) ho (Pv k3 ha hE hw) ?_;obtain⟨fn,c,hf,hb,_,_,_,hn⟩:=W4 (hT f F hF qc);obtain⟨us,qg,qy,qt⟩:=Tu (ops:=ops) (n:=n) k4 hc hE hI hf hb hn;unfold Oper.wp;rw[qg];refine(ihf us w γ N qy qt hI).mono ?_;rintro _ w1 ⟨u,γ',rfl,hu,qn,qu,qm,hk⟩;obtain⟨p1,p2,p3⟩:=P4 (u:=u) k2 ha (hE.ext qu) hu;show wpOps P ops Q js (a.put o.dst u) w1;rw[<-k1];exact ih n D ops js _ w1 _ N Q ql p2 (p3.trans hd) p1 qn (fun a' w' hl=>hQ a' w' (hl.after qu qm hk))
 | @opsThr i f args l e e' σ σ1 σ' F v hw hc hF hthr qc _ _ ihf ih=>
  intro n D ops L a w γ N Q hM ha hd hE hI hQ;obtain⟨j,js,o,rfl,ho,qd,ql⟩:=hM.tail;obtain⟨k1,k2,k3,k4⟩:=Pr qd;refine Sh (n:=n) ho (Pv k3 ha hE hw) ?_;obtain⟨fn,c,hf,hb,_,_,_,hn⟩:=W4 (hT f F hF qc);obtain⟨us,qg,qy,qt⟩:=Tu (ops:=ops) (n:=n) k4 hc hE hI hf hb hn;unfold Oper.wp;rw[qg];refine(ihf us w γ N qy qt hI).mono ?_;rintro _ w1 ⟨u,γ',rfl,hu,qn,qu,qm,hk⟩;obtain⟨p1,p2,p3⟩:=P4 (u:=u) k2 ha (hE.ext qu) hu;show wpOps P ops Q js (a.put o.dst u) w1;rw[<-k1];exact ih n D ops js _ w1 _ N Q ql p2 (p3.trans hd) p1 qn (fun a' w' hl=>hQ a' w' (hl.after qu qm hk))
 | @opsSpec i f args l e e' σ σ1 σ' F s v hw hc hF hthr qc hs _ ih=>
  intro n D ops L a w γ N Q hM ha hd hE hI hQ;obtain⟨j,js,o,rfl,ho,qd,ql⟩:=hM.tail;obtain⟨k1,k2,k3,k4⟩:=Pr qd;refine Sh (n:=n) ho (Pv k3 ha hE hw) ?_;obtain⟨⟨fn,c,hf,hb,hn⟩,qC⟩:=hS f F s hF qc;obtain⟨us,qg,qy,qt⟩:=Tu (ops:=ops) (n:=n) k4 hc hE hI hf hb hn;unfold Oper.wp;rw[qg];refine(qC _ σ v σ1 hs us w γ N qy qt hI).mono ?_;rintro _ w1 ⟨u,γ',rfl,hu,qn,qu,qm,hk⟩;obtain⟨p1,p2,p3⟩:=P4 (u:=u) k2 ha (hE.ext qu) hu;show wpOps P ops Q js (a.put o.dst u) w1;rw[<-k1];exact ih n D ops js _ w1 _ N Q ql p2 (p3.trans hd) p1 qn (fun a' w' hl=>hQ a' w' (hl.after qu qm hk))
 | fn hF qc hl _ qf hok1 hok2 hok3 ih=>
  refine Abc hT hF qc hl qf hok1 (fun γ γ' w w' N u hI h2 hx hv=>?_) ih;obtain⟨γ2,i1,i2,i3,i4⟩:=Ak2 hI h2 hx hok2 hok3 hv;exact⟨γ2,i1,i2,i3,fun b _=>i4 b⟩
 | fnL hF qc hl _ qf qd ih=>
  refine Abc hT hF qc hl qf (by unfold Hz at qd;simp only[Af]at qd;exact qd.1) (fun γ γ' w w' N u hI h2 hx hv=>?_) ih;obtain⟨γ2,i1,i2,i3,i4⟩:=Ak3 hI h2 hx qd hv;exact⟨γ2,i1,i2,i3,fun b _=>i4 b⟩
 | fnS hF qc hl _ qf qr hset hok2 hok3 ih=>
  refine Abc hT hF qc hl qf qr (fun γ γ' w w' N u hI h2 hx hv=>?_) ih;obtain⟨κ2,y1,y2,y3,y4,_⟩:=h2.freeze _;obtain⟨γ2,i1,i2,i3,i4⟩:=Ak2 hI y1 (hx.trans y2) hok2 hok3 (Z2 h2 y2 y4 hset hv γ'.O);exact⟨γ2,i1,i2,i3,fun b hb=>(i4 b).trans (y3 b hb)⟩
 | fnZ hF qc hl _ qf qr hset qd ih=>
  refine Abc hT hF qc hl qf qr (fun γ γ' w w' N u hI h2 hx hv=>?_) ih;obtain⟨κ2,y1,y2,y3,y4,_⟩:=h2.freeze _;obtain⟨γ2,i1,i2,i3,i4⟩:=Ak3 hI y1 (hx.trans y2) qd (Z2 h2 y2 y4 hset hv γ'.O);exact⟨γ2,i1,i2,i3,fun b hb=>(i4 b).trans (y3 b hb)⟩
 | cNil=>
  intro n D qh a w γ N hM ha hd hE hI b cs;cases hM;exact⟨a,w,[],.one step_end,γ,hE,hI,Ext.refl _ _,Below.refl _ _,fun _ _=>rfl,ha,hd⟩
 | cSkip _ ih=>
  intro n D qh a w γ N hM ha hd hE hI b cs
  cases hM with
  | c qd hM=>
   have ji:=Aw5 qd;obtain⟨a',w',t',hs,hl⟩:=ih n D _ a w γ N hM ha hd hE hI b cs;exact⟨a',w',t',.head (Avb ji) hs,hl⟩
 | @cReg kill qi k e e1 e' σ σ1 σ' _ _ ih1 ih2=>
  intro n D qh a w γ N hM ha hd hE hI b cs
  cases hM with
  | @c _ _ _ qj qd hM=>
   obtain⟨id,ops,rfl,qB⟩:=A0k qd
   have hw:=ih1 n D ops (List.range ops.size) a w γ N (fun ex a' w'=>ex=.normal/\Leaves G N n D γ σ w e1 σ1 a' w') (by
    have:=Amc qi ops.toList 0 qB (by simp);rw[List.range_eq_range']
    simpa using this) ha hd hE hI (fun a' w' h=>⟨rfl,h⟩)
   obtain⟨ex,a1,w1,⟨rfl,γ1,q1,q2,q3,q4,q5,q6,q7⟩,qz⟩:=wp_ops _ a w hw b qj cs;obtain⟨a',w',t',hs,hl⟩:=ih2 n D _ a1 w1 γ1 N hM q6 q7 (q1.del kill) q2 b cs;exact⟨a',w',t',.head step_region (Steps.trans qz hs),hl.after q3 q4 q5⟩
 | @cDrw kill qa qi k e e1 e' σ σ1 σ' E2 _ hE2 _ ih1 ih2=>
  intro n D qh a w γ N hM ha hd hE hI b cs
  cases hM with
  | @c _ _ _ qj qd hM=>
   obtain⟨id,ops,rfl,qB,qw,qM⟩:=A0l qd;obtain⟨d1,d2⟩:=hI.drew;have qv:qa.length=ops.size:=by simpa using (Aas qw).1
   have qP:∀ t,Region.schedule (P.follows .mixedOrders) ops t=N7 qa t:=fun t=>by
    unfold Region.schedule;rw[qM];simpa using A39 qw t
   have hw:=ih1 (w.tape w.drawn (.order b.fn id)) n D ops (N7 qa (w.tape w.drawn (.order b.fn id))) a w.drew γ N (fun ex a' w'=>ex=.normal/\Leaves G N n D γ σ w.drew (E2 (w.tape w.drawn (.order b.fn id))) σ1 a' w')
    (Aoe qB _ (fun i hi=>by rw[<-qv];exact Ap7 qa _ _ [] (fun i hi=>by cases hi) i hi)) ha hd (hE.ext d2) d1 (fun a' w' h=>⟨rfl,h⟩)
   obtain⟨ex,a1,w1,⟨rfl,γ1,q1,q2,q3,q4,q5,q6,q7⟩,qz⟩:=wp_ops _ a w.drew hw b qj cs;have jo:RepE γ1 w1 e1 a1.tmps:=fun m=>by rw[<-hE2 (w.tape w.drawn (.order b.fn id)) m];exact q1 m
   obtain⟨a',w',t',hs,hl⟩:=ih2 n D _ a1 w1 γ1 N hM q6 q7 (jo.del kill) q2 b cs;have qx:=step_region_draw (P:=P) (b:=b) (a:=a) (k:=qj) (cs:=cs) (w:=w) (ops:=ops) (id:=id);rw[qP]at qx;exact⟨a',w',t',.head qx (Steps.trans qz hs),(Leaves.after (σ:=σ) (σ1:=σ) d2 (Below.refl _ _).drew (fun _ _=>rfl) (Leaves.after (σ:=σ) q3 q4 q5 hl))⟩
 | cSeq _ ih=>
  intro n D qh a w γ N hM ha hd hE hI b cs
  cases hM with
  | c qd hM=>
   obtain⟨c1,c2,rfl,h1,h2⟩:=A0m qd;obtain⟨a',w',t',hs,hl⟩:=ih n D _ a w γ N (.c h1 (.c h2 hM)) ha hd hE hI b cs;exact⟨a',w',t',.head step_seq hs,hl⟩
 | @cCond s kill x y k e e' σ σ' z hc _ ih=>
  intro n D qh a w γ N hM ha hd hE hI b cs
  cases hM with
  | c qd hM=>
   obtain⟨o,c1,c2,rfl,h1,h2,h3⟩:=Aw6 qd;have hr:=Xf (a:=a) h1 hE hI;rw[hc]at hr;have hz:=Oo (Ay rfl hr);obtain⟨a',w',t',hs,hl⟩:=ih n D _ a w γ N (.c (c:=if z then c1 else c2) (by cases z<;>assumption) hM) ha hd (hE.del kill) hI b cs;exact⟨a',w',t',.head (step_cond hz) hs,hl⟩
 | cBlk _ ih=>
  intro n D qh a w γ N hM ha hd hE hI b cs
  cases hM with
  | c qd hM=>
   rcases A0n qd with⟨c1,rfl,h1⟩ | ⟨c1,rfl,hi,h1⟩
   .obtain⟨a',w',t',hs,hl⟩:=ih n D _ a w γ N (.c h1 (.b hM)) ha hd hE hI b cs;exact⟨a',w',t',.head step_block hs,hl⟩
   .obtain⟨a',w',t',hs,hl⟩:=ih n D _ a w γ N (.c h1 (.s hi hM)) ha hd hE hI b cs;exact⟨a',w',t',.head step_scope hs,hl⟩
 | cEnd _ ih=>
  intro n D qh a w γ N hM ha hd hE hI b cs
  cases hM with
  | b hM=>
   obtain⟨a',w',t',hs,hl⟩:=ih n D _ a w γ N hM ha hd hE hI b cs;exact⟨a',w',t',.head step_inBlock hs,hl⟩
  | s _ hM=>
   obtain⟨a',w',t',hs,hl⟩:=ih n D _ a w γ N hM ha hd hE hI b cs;exact⟨a',w',t',.head step_inScope hs,hl⟩
 | cLoop _ ih=>
  intro n D qh a w γ N hM ha hd hE hI b cs
  cases hM with
  | c qd hM=>
   obtain⟨c1,rfl,h1⟩:=Aw7 qd;exact ih n D _ a w γ N (.l' h1 hM) ha hd hE hI b cs
 | @cAgain keep c k e e' σ σ' _ ih=>
  intro n D qh a w γ N hM ha hd hE hI b cs
  cases hM with
  | l qd hM=>
   obtain⟨a',w',t',hs,hl⟩:=ih n D _ a w γ N (.c qd (.l qd hM)) ha hd (hE.keep keep) hI b cs;exact⟨a',w',t',.head step_inLoop hs,hl⟩
  | l' qd hM=>
   obtain⟨a',w',t',hs,hl⟩:=ih n D _ a w γ N (.c qd (.l qd hM)) ha hd (hE.keep keep) hI b cs;exact⟨a',w',t',.head step_loop hs,hl⟩
 | cExit hk _ ih=>
  intro n D qh a w γ N hM ha hd hE hI b cs
  cases hM with
  | c qd hM=>
   obtain⟨rfl,qq⟩:=Aw8 qd;obtain⟨qj,h1,h2⟩:=hM.exit qq hk;obtain⟨a',w',t',hs,hl⟩:=ih n D _ a w γ N h2 ha hd hE hI b cs;exact⟨a',w',t',.head (step_exit h1) hs,hl⟩
 | cRet=>
  intro n D qh a w γ N hM ha hd hE hI b cs
  cases hM with
  | c qd hM=>
   obtain rfl:=A0o qd;exact⟨a,w,_,.one step_ret,γ,hE,hI,Ext.refl _ _,Below.refl _ _,fun _ _=>rfl,ha,hd⟩
variable {T:Nat->Option AF} {pr:Nat->Option (List V->Option V)}
def W(T:Nat->Option AF)(pr:Nat->Option (List V->Option V))(k:List It)(e:Env)(σ:St)(Q:Env->St->Prop):Prop:=∃ e' σ',Ev T pr (.code k e σ e' σ')/\Q e' σ'
def WO(T:Nat->Option AF)(pr:Nat->Option (List V->Option V))(l:List AI)(e:Env)(σ:St)(Q:Env->St->Prop):Prop:=∃ e' σ',Ev T pr (.ops l e σ e' σ')/\Q e' σ'
section
variable {Q:Env->St->Prop} {e:Env} {σ:St} {k:List It}
def A76{a b:AC}(h:W T pr (.c a::.c b::k) e σ Q):W T pr (.c (.seq a b)::k) e σ Q:=let ⟨e',σ',h,q⟩:=h;⟨e',σ',.cSeq h,q⟩
def A4b(h:W T pr k e σ Q):W T pr (.c .skip::k) e σ Q:=let ⟨e',σ',h,q⟩:=h;⟨e',σ',.cSkip h,q⟩
def A77{id:Nat}{c:AC}(h:W T pr (.c c::.b id::k) e σ Q):W T pr (.c (.blk id c)::k) e σ Q:=let ⟨e',σ',h,q⟩:=h;⟨e',σ',.cBlk h,q⟩
def A78{id:Nat}(h:W T pr k e σ Q):W T pr (.b id::k) e σ Q:=let ⟨e',σ',h,q⟩:=h;⟨e',σ',.cEnd h,q⟩
def A4c{keep:List Nat}{c:AC}(h:W T pr (.l keep c::k) e σ Q):W T pr (.c (.loop keep c)::k) e σ Q:=let ⟨e',σ',h,q⟩:=h;⟨e',σ',.cLoop h,q⟩
def A0p{keep:List Nat}{c:AC}(h:W T pr (.c c::.l keep c::k) (e.keep keep) σ Q):W T pr (.l keep c::k) e σ Q:=let ⟨e',σ',h,q⟩:=h;⟨e',σ',.cAgain h,q⟩
def A4d{id:Nat}{k':List It}(hk:exitTo id k=some k')(h:W T pr k' e σ Q):W T pr (.c (.exit id)::k) e σ Q:=let ⟨e',σ',h,q⟩:=h;⟨e',σ',.cExit hk h,q⟩
def A79(q:Q e σ):W T pr (.c .ret::k) e σ Q:=⟨e,σ,.cRet,q⟩
def A8a(q:Q e σ):W T pr [] e σ Q:=⟨e,σ,.cNil,q⟩
def Ap8{c:S}{kill:List Nat}{x y:AC}{z:Bool}(hc:Ac e c=.bool z)(h1:z=true->W T pr (.c x::k) (e.del kill) σ Q)(h2:z=false->W T pr (.c y::k) (e.del kill) σ Q):W T pr (.c (.cond c kill x y)::k) e σ Q:=by
 cases z with
 | true=>
  obtain⟨e',σ',h,q⟩:=h1 rfl;exact⟨e',σ',.cCond hc h,q⟩
 | false=>
  obtain⟨e',σ',h,q⟩:=h2 rfl;exact⟨e',σ',.cCond hc h,q⟩
def Axb{c:S}{kill:List Nat}{x y:AC}(hc:Ac e c=.bool true)(h:W T pr (.c x::k) (e.del kill) σ Q):W T pr (.c (.cond c kill x y)::k) e σ Q:=Ap8 hc (fun _=>h) (fun h=>by cases h)
def Axc{c:S}{kill:List Nat}{x y:AC}(hc:Ac e c=.bool false)(h:W T pr (.c y::k) (e.del kill) σ Q):W T pr (.c (.cond c kill x y)::k) e σ Q:=Ap8 hc (fun h=>by cases h) (fun _=>h)
def Fn(T:Nat->Option AF)(pr:Nat->Option (List V->Option V))(f:Nat)(vs:List V)(v:V):Prop:=∃ F,T f=some F/\F.thr=false/\F.spec=none/\∃ v0 σ0,Ev T pr (.fn f vs [] v0 σ0)/\Es σ0 v0=some v
def FnO(T:Nat->Option AF)(pr:Nat->Option (List V->Option V))(f:Nat)(vs:List V)(v:V)(σ0:St):Prop:=∃ F,T f=some F/\F.thr=false/\F.spec=none/\Ev T pr (.fn f vs [] v σ0)
def Th(T:Nat->Option AF)(pr:Nat->Option (List V->Option V))(f:Nat)(vs:List V)(σ:St)(v:V)(σ':St):Prop:=∃ F,T f=some F/\F.thr=true/\F.spec=none/\Ev T pr (.fn f vs σ v σ')
def Bt(T:Nat->Option AF)(pr:Nat->Option (List V->Option V))(f:Nat)(vs:List V)(σ:St)(v:V)(σ':St):Prop:=∃ F,T f=some F/\F.spec=none/\Ev T pr (.fn f vs σ v σ')
def Aie(n:Nat)(σ:St)(v:V)(σ1:St):Prop:=Cq v=true/\Ey n [] v.refs=true/\∀ i ob,i<n->σ1[i]?=some ob->σ[i]?=some ob\/Ey n [] ob.refs=true
def Axd{f:Nat}{vs:List V}{v:V}{F:AF}{σ':St}(hT:T f=some F)(ht:F.thr=true)(qc:F.spec=none)(hl:vs.length=F.pars)(h:W T pr [.c F.body] (Da 0 vs) σ fun e' σ1=>Ch e' σ1 F.res=some v/\Aie σ.length σ v σ1/\σ'=σ1.take σ.length):Th T pr f vs σ v σ':=by
 obtain⟨e',σ1,hE,hr,⟨h1,h2,h3⟩,rfl⟩:=h;exact⟨F,hT,ht,qc,.fn hT qc hl hE hr h1 h2 h3⟩
def Avc{f:Nat}{vs:List V}{v:V}{F:AF}{σ':St}(hT:T f=some F)(ht:F.thr=true)(qc:F.spec=none)(hl:vs.length=F.pars)(h:W T pr [.c F.body] (Da 0 vs) σ fun e' σ1=>∃ v0 js,Ch e' σ1 F.res=some v0/\Hz σ.length js v0 σ1=true/\v=v0.ren (ren σ.length js)/\σ'=(σ1.take σ.length++js.filterMap (σ1[·]?)).map (Ob.ren (ren σ.length js))):Th T pr f vs σ v σ':=by
 obtain⟨e',σ1,hE,v0,js,hr,qE,rfl,rfl⟩:=h;exact⟨F,hT,ht,qc,.fnL hT qc hl hE hr qE⟩
def Amd{f:Nat}{vs:List V}{v:V}{F:AF}(hT:T f=some F)(ht:F.thr=false)(qc:F.spec=none)(hl:vs.length=F.pars)(h:W T pr [.c F.body] (Da 0 vs) [] fun e' σ'=>∃ v0,Ch e' σ' F.res=some v0/\Cq v0=true/\v0.refs=[]/\Es [] v0=some v):Fn T pr f vs v:=by
 obtain⟨e',σ',hE,v0,hr,ho,hn,hb⟩:=h;have:=Ev.fn (T:=T) (pr:=pr) hT qc hl hE hr ho (by rw[hn];rfl) (fun i ob hi=>by simp at hi);exact⟨F,hT,ht,qc,v0,_,this,hb⟩
def Avd{f:Nat}{vs:List V}{v:V}{F:AF}(hT:T f=some F)(ht:F.thr=false)(qc:F.spec=none)(hl:vs.length=F.pars)(h:W T pr [.c F.body] (Da 0 vs) [] fun e' σ1=>∃ v0 js,Ch e' σ1 F.res=some v0/\Hz 0 js v0 σ1=true/\Es ((js.filterMap (σ1[·]?)).map (Ob.ren (ren 0 js))) (v0.ren (ren 0 js))=some v):Fn T pr f vs v:=by
 obtain⟨e',σ',hE,v0,js,hr,qE,hb⟩:=h;have:=Ev.fnL (T:=T) (pr:=pr) hT qc hl hE hr qE;exact⟨F,hT,ht,qc,_,_,this,by simpa using hb⟩
def Ak4{f:Nat}{vs:List V}{v:V}{F:AF}{σ':St}(hT:T f=some F)(qc:F.spec=none)(hl:vs.length=F.pars)(h:W T pr [.c F.body] (Da 0 vs) σ fun e' σ1=>∃ v0 js,Ch e' σ1 F.res=some v0/\Cq v0=true/\Jq σ1 js v0=some v/\Ey σ.length [] v.refs=true/\(∀ i ob,i<σ.length->(σ1.freeze js)[i]?=some ob->σ[i]?=some ob\/Ey σ.length [] ob.refs=true)/\σ'=(σ1.freeze js).take σ.length):Bt T pr f vs σ v σ':=by
 obtain⟨e',σ1,hE,v0,js,hr,h0,h1,h2,h3,rfl⟩:=h;exact⟨F,hT,qc,.fnS hT qc hl hE hr h0 h1 h2 h3⟩
def Ave{f:Nat}{vs:List V}{v:V}{F:AF}{σ':St}(hT:T f=some F)(ht:F.thr=true)(qc:F.spec=none)(hl:vs.length=F.pars)(h:W T pr [.c F.body] (Da 0 vs) σ fun e' σ1=>∃ v0 v1 js ks,Ch e' σ1 F.res=some v0/\Cq v0=true/\Jq σ1 js v0=some v1/\Hz σ.length ks v1 (σ1.freeze js)=true/\v=v1.ren (ren σ.length ks)/\σ'=((σ1.freeze js).take σ.length++ks.filterMap ((σ1.freeze js)[·]?)).map (Ob.ren (ren σ.length ks))):Th T pr f vs σ v σ':=by
 obtain⟨e',σ1,hE,v0,v1,js,ks,hr,h0,h1,h2,rfl,rfl⟩:=h;exact⟨F,hT,ht,qc,.fnZ hT qc hl hE hr h0 h1 h2⟩
def Ak5{f:Nat}{vs:List V}{v:V}{F:AF}(hT:T f=some F)(ht:F.thr=false)(qc:F.spec=none)(hl:vs.length=F.pars)(h:W T pr [.c F.body] (Da 0 vs) [] fun e' σ1=>∃ v0 js,Ch e' σ1 F.res=some v0/\Cq v0=true/\Jq σ1 js v0=some v/\v.refs=[]/\Es [] v=some v):Fn T pr f vs v:=by
 obtain⟨e',σ1,hE,v0,js,hr,h0,h1,h2,h3⟩:=h;have:=Ev.fnS (T:=T) (pr:=pr) hT qc hl hE hr h0 h1 (by rw[h2];rfl) (fun i ob hi=>by simp at hi);exact⟨F,hT,ht,qc,v,_,this,by simpa using h3⟩
end
variable {T:Nat->Option AF} {pr:Nat->Option (List V->Option V)}
def S.rd:S->List Nat
 | .t n=>[n]
 | .k _=>[]
def S.rdO:Option S->List Nat
 | some s=>s.rd
 | none=>[]
def AO.rd:AO->List Nat
 | .mov x | .box _ x | .load _ _ x | .chk x | .un _ x | .cvi _ x | .cvs x | .cvl x | .stb _ x | .bts x | .sap _ x | .fad _ x | .fld _ _ _ x | .ext _ x | .len x | .lens x=>x.rd
 | .pick c a b=>c.rd++(a.rd++b.rd)
 | .new _ _ | .mmk=>[]
 | .build _ ps=>ps.flatMap fun p=>p.2.2.rd
 | .rows _ _ ps | .rowf _ _ ps | .rowo _ _ _ ps=>ps.flatMap fun p=>p.2.rd
 | .mk _ _ _ x y | .mlk _ x y=>x.rd++y.rd
 | .mup x k v=>x.rd++(k.rd++v.rd)
 | .mkf _ a c=>a.flatMap S.rd++c.flatMap S.rd
 | .store _ x v=>x.rd++v.rd
 | .bin _ x y | .eq _ _ x y | .iad _ x y | .iar _ _ x y | .idx x y | .ida _ _ _ x y | .app _ _ x y | .apps _ x y | .mx x y | .mn x y=>x.rd++y.rd
 | .slc _ x lo hi m3=>x.rd++(S.rdO lo++(S.rdO hi++S.rdO m3))
 | .slcs x lo hi | .slca _ _ x lo hi=>x.rd++(S.rdO lo++S.rdO hi)
 | .call _ xs=>xs.flatMap S.rd
 | .callv x xs=>x.rd++xs.flatMap S.rd
def AI.rd(i:AI):List Nat:=i.op.rd++(match i.g with
 | some (t,_)=>[t]
 | none=>[])
def Agree(e e':Env)(l:List Nat):Prop:=∀ t∈l,e.get t=e'.get t
def Agree.l{e e':Env}{a b:List Nat}(h:Agree e e' (a++b)):Agree e e' a:=fun t ht=>h t (by simp[ht])
def Agree.r{e e':Env}{a b:List Nat}(h:Agree e e' (a++b)):Agree e e' b:=fun t ht=>h t (by simp[ht])
def B9{e e':Env}{s:S}(h:Agree e e' s.rd):Ac e s=Ac e' s:=by
 cases s with
 | t n=>exact h n (by simp[S.rd])
 | k v=>rfl
def R3{e e':Env}{s:Option S}(h:Agree e e' (S.rdO s)):s.map (Ac e)=s.map (Ac e'):=by
 cases s with
 | none=>rfl
 | some s=>simp only[Fr];rw[B9 h]
def On{e e':Env}:∀ {xs:List S},Agree e e' (xs.flatMap S.rd)->xs.map (Ac e)=xs.map (Ac e')
 | [],_=>rfl
 | x::xs,h=>by
  rw[Ti]at h;rw[Aw,Aw,B9 h.l,On h.r]
def Ak6{e e':Env}{op:AO}(h:Agree e e' op.rd)(σ:St):Ae op e σ=Ae op e' σ:=by
 cases op with
 | build z ps=>
  have:(ps.map fun p=>(p.1,p.2.1,Ac e p.2.2))=ps.map fun p=>(p.1,p.2.1,Ac e' p.2.2):=by
   simp only[AO.rd]at h
   induction ps with
   | nil=>rfl
   | cons p ps ih=>
    rw[Ti]at h;rw[Aw,Aw,B9 h.l,ih h.r]
  simp only[Ae,this]
 | rows n z ps=>
  have:(ps.map fun p=>(p.1*z.length,z.length,Ac e p.2))=ps.map fun p=>(p.1*z.length,z.length,Ac e' p.2):=by
   simp only[AO.rd]at h
   induction ps with
   | nil=>rfl
   | cons p ps ih=>
    rw[Ti]at h;rw[Aw,Aw,B9 h.l,ih h.r]
  simp only[Ae,this]
 | rowf n z ps=>
  have:(ps.map fun p=>(p.1*z.length,z.length,Ac e p.2))=ps.map fun p=>(p.1*z.length,z.length,Ac e' p.2):=by
   simp only[AO.rd]at h
   induction ps with
   | nil=>rfl
   | cons p ps ih=>
    rw[Ti]at h;rw[Aw,Aw,B9 h.l,ih h.r]
  simp only[Ae,this]
 | rowo t n z ps=>
  have:(ps.map fun p=>(p.1*z.length,z.length,Ac e p.2))=ps.map fun p=>(p.1*z.length,z.length,Ac e' p.2):=by
   simp only[AO.rd]at h
   induction ps with
   | nil=>rfl
   | cons p ps ih=>
    rw[Ti]at h;rw[Aw,Aw,B9 h.l,ih h.r]
  simp only[Ae,this]
 | call f xs=>rfl
 | callv x xs=>rfl
 | new t z=>rfl
 | mmk=>rfl
 | mkf f a c=>simp only[Ae,AO.rd]at h ⊢;rw[On h.l,On h.r]
 | mup x k v=>simp only[Ae,AO.rd]at h ⊢;rw[B9 h.l,B9 h.r.l,B9 h.r.r]
 | pick c a b=>simp only[Ae,AO.rd]at h ⊢;rw[B9 h.l,B9 h.r.l,B9 h.r.r]
 | slc m x lo hi mx=>simp only[Ae,AO.rd]at h ⊢;rw[B9 h.l,R3 h.r.l,R3 h.r.r.l,R3 h.r.r.r]
 | slcs x lo hi=>simp only[Ae,AO.rd]at h ⊢;rw[B9 h.l,R3 h.r.l,R3 h.r.r]
 | slca l m x lo hi=>simp only[Ae,AO.rd]at h ⊢;rw[B9 h.l,R3 h.r.l,R3 h.r.r]
 | mov x=>simp only[Ae,AO.rd]at h ⊢;rw[B9 h]
 | box t x=>simp only[Ae,AO.rd]at h ⊢;rw[B9 h]
 | load n one x=>simp only[Ae,AO.rd]at h ⊢;rw[B9 h]
 | chk x=>simp only[Ae,AO.rd]at h ⊢;rw[B9 h]
 | un o x=>simp only[Ae,AO.rd]at h ⊢;rw[B9 h]
 | cvi k x=>simp only[Ae,AO.rd]at h ⊢;rw[B9 h]
 | sap k x=>simp only[Ae,AO.rd]at h ⊢;rw[B9 h]
 | cvs x=>simp only[Ae,AO.rd]at h ⊢;rw[B9 h]
 | cvl x=>simp only[Ae,AO.rd]at h ⊢;rw[B9 h]
 | stb t x=>simp only[Ae,AO.rd]at h ⊢;rw[B9 h]
 | bts x=>simp only[Ae,AO.rd]at h ⊢;rw[B9 h]
 | fad o x=>simp only[Ae,AO.rd]at h ⊢;rw[B9 h]
 | fld o n b x=>simp only[Ae,AO.rd]at h ⊢;rw[B9 h]
 | ext i x=>simp only[Ae,AO.rd]at h ⊢;rw[B9 h]
 | len x=>simp only[Ae,AO.rd]at h ⊢;rw[B9 h]
 | lens x=>simp only[Ae,AO.rd]at h ⊢;rw[B9 h]
 | store n x v=>simp only[Ae,AO.rd]at h ⊢;rw[B9 h.l,B9 h.r]
 | bin o x y=>simp only[Ae,AO.rd]at h ⊢;rw[B9 h.l,B9 h.r]
 | eq k b x y=>simp only[Ae,AO.rd]at h ⊢;rw[B9 h.l,B9 h.r]
 | iad m x y=>simp only[Ae,AO.rd]at h ⊢;rw[B9 h.l,B9 h.r]
 | iar l m x y=>simp only[Ae,AO.rd]at h ⊢;rw[B9 h.l,B9 h.r]
 | ida l m one x y=>simp only[Ae,AO.rd]at h ⊢;rw[B9 h.l,B9 h.r]
 | idx x y=>simp only[Ae,AO.rd]at h ⊢;rw[B9 h.l,B9 h.r]
 | app b m x y=>simp only[Ae,AO.rd]at h ⊢;rw[B9 h.l,B9 h.r]
 | apps t x y=>simp only[Ae,AO.rd]at h ⊢;rw[B9 h.l,B9 h.r]
 | mx x y=>simp only[Ae,AO.rd]at h ⊢;rw[B9 h.l,B9 h.r]
 | mn x y=>simp only[Ae,AO.rd]at h ⊢;rw[B9 h.l,B9 h.r]
 | mk t b z x y=>simp only[Ae,AO.rd]at h ⊢;rw[B9 h.l,B9 h.r]
 | mlk z x y=>simp only[Ae,AO.rd]at h ⊢;rw[B9 h.l,B9 h.r]
def Fm(T:Nat->Option AF)(pr:Nat->Option (List V->Option V)):AO->Nat
 | .load _ _ _=>1
 | .new _ _ | .box _ _ | .store _ _ _ | .app _ _ _ _ | .apps _ _ _ | .rowf _ _ _ | .rowo _ _ _ _ | .mk _ _ _ _ _ | .stb _ _ | .bts _ | .cvl _ | .mmk | .mlk _ _ _ | .mup _ _ _ | .callv _ _=>2
 | .call f _=>match pr f with
  | some _=>0
  | none=>match T f with
   | some F=>if F.thr then 2 else 0
   | none=>2
 | _=>0
def Uh{σ σ1:St}{v:V}{x:Option V}(h:x.map (fun v=>(v,σ))=some (v,σ1)):σ1=σ/\x=some v:=by
 cases x with
 | none=>simp at h
 | some y=>simp at h;exact⟨h.2.symm,by rw[h.1]⟩
def Z3{op:AO}(h0:Fm T pr op=0){e:Env}{σ σ1:St}{v:V}(h:Ae op e σ=some (v,σ1)):σ1=σ/\∀ σ',Ae op e σ'=some (v,σ'):=by
 cases op with
 | new | box | store | app | apps | load | rowf | rowo | mk | stb | bts | cvl | mmk | mlk | mup | callv=>simp[Fm]at h0
 | call=>simp[Ae]at h
 | mov x=>simp only[Ae]at h ⊢;cases h;exact⟨rfl,fun _=>rfl⟩
 | pick c a b=>
  simp only[Ae]at h ⊢
  split at h
  .cases h;exact⟨rfl,fun _=>rfl⟩
  .cases h
 | build z ps=>
  simp only[Ae]at h ⊢
  cases hf:Hm z (ps.map fun p=>(p.1,p.2.1,Ac e p.2.2)) with
  | none=>rw[hf]at h;simp at h
  | some cs=>rw[hf]at h;simp at h;exact⟨h.2.symm,fun σ'=>by simp[h.1]⟩
 | rows n z ps=>
  simp only[Ae]at h ⊢
  cases hf:Hm (List.replicate n z).flatten (ps.map fun p=>(p.1*z.length,z.length,Ac e p.2)) with
  | none=>rw[hf]at h;simp at h
  | some cs=>
   rw[hf]at h;simp only[C7]at h ⊢
   split at h
   .rename_i hs;cases h;exact⟨rfl,fun σ'=>by rw[if_pos hs]⟩
   .cases h
 | mkf f a c=>
  simp only[Ae]at h ⊢
  split at h
  .rename_i hs;cases h;exact⟨rfl,fun σ'=>by rw[if_pos hs]⟩
  .cases h
 | slca l m x lo hi=>
  simp only[Ae]at h ⊢
  split at h
  .simp only[D7]at h;obtain⟨p,hp,q,hq,h⟩:=h
   split at h
   .rename_i qH;cases h;exact⟨rfl,fun σ'=>by simp[hp,hq,qH]⟩
   .cases h
  .cases h
 | chk x=>
  simp only[Ae]at h ⊢
  split at h
  .cases h;exact⟨rfl,fun _=>rfl⟩
  .cases h;exact⟨rfl,fun _=>rfl⟩
  .cases h
 | bin o x y=>simp only[Ae]at h ⊢;obtain⟨h1,h2⟩:=Uh h;exact⟨h1,fun σ'=>by rw[h2];rfl⟩
 | eq k b x y=>
  simp only[Ae]at h ⊢
  cases hf:Mb k (Ac e x) (Ac e y) with
  | none=>rw[hf]at h;simp at h
  | some z=>rw[hf]at h;simp at h;exact⟨h.2.symm,fun σ'=>by simp[h.1]⟩
 | un o x=>simp only[Ae]at h ⊢;obtain⟨h1,h2⟩:=Uh h;exact⟨h1,fun σ'=>by rw[h2];rfl⟩
 | sap o x=>simp only[Ae]at h ⊢;obtain⟨h1,h2⟩:=Uh h;exact⟨h1,fun σ'=>by rw[h2];rfl⟩
 | cvi k x=>
  simp only[Ae]at h ⊢
  split at h
  .cases h;exact⟨rfl,fun _=>rfl⟩
  .cases h
 | cvs x=>
  simp only[Ae]at h ⊢
  split at h
  .cases h;exact⟨rfl,fun _=>rfl⟩
  .cases h
 | slc m x lo hi m3=>simp only[Ae]at h ⊢;obtain⟨h1,h2⟩:=Uh h;exact⟨h1,fun σ'=>by rw[h2];rfl⟩
 | slcs x lo hi=>simp only[Ae]at h ⊢;obtain⟨h1,h2⟩:=Uh h;exact⟨h1,fun σ'=>by rw[h2];rfl⟩
 | fad o x=>
  simp only[Ae]at h ⊢
  split at h
  .cases h;exact⟨rfl,fun _=>rfl⟩
  .cases h;exact⟨rfl,fun _=>rfl⟩
  .cases h
 | fld o n b x=>
  simp only[Ae]at h ⊢
  split at h
  .split at h
   .rename_i qH;obtain⟨h1,h2⟩:=Uh h;exact⟨h1,fun σ'=>by simp only[if_pos qH,h2];rfl⟩
   .cases h
  .cases h
 | iad m x i=>
  simp only[Ae]at h ⊢
  split at h
  .rename_i t xs e1
   cases hf:I1 xs (Ac e i) with
   | none=>rw[hf]at h;simp at h
   | some r=>
    rw[hf]at h;simp only[C7]at h
    split at h
    .rename_i hr;cases h;exact⟨rfl,fun σ'=>by simp[hf,hr]⟩
    .cases h
  .split at h
   .split at h
    .rename_i hc;cases h;exact⟨rfl,fun σ'=>by simp only[if_pos hc]⟩
    .cases h
   .cases h
  .cases h
 | ida l m one x i=>
  simp only[Ae]at h ⊢
  split at h
  .split at h
   .rename_i hn
    split at h
    .split at h
     .rename_i qH;simp only[Bo]at h;obtain⟨v',h,h2⟩:=h;cases h2;exact⟨rfl,fun τ=>by simp only[if_pos hn,if_pos qH,h,Fr]⟩
     .cases h
    .cases h
   .cases h
  .cases h
 | iar l m x i=>
  simp only[Ae]at h ⊢
  split at h
  .split at h
   .rename_i hn
    split at h
    .cases h;exact⟨rfl,fun _=>by simp only[if_pos hn]⟩
    .cases h;exact⟨rfl,fun _=>by simp only[if_pos hn]⟩
    .cases h
   .cases h
  .cases h
 | idx x i=>
  simp only[Ae]at h ⊢
  split at h
  .rename_i l e1
   cases hf:I1 l (Ac e i) with
   | none=>rw[hf]at h;simp at h
   | some r=>rw[hf]at h;simp at h;exact⟨h.2.symm,fun σ'=>by simp[hf,h.1]⟩
  .cases h
 | ext i x=>
  simp only[Ae]at h ⊢
  split at h
  .rename_i vs e1
   cases hf:vs[i]? with
   | none=>rw[hf]at h;simp at h
   | some r=>rw[hf]at h;simp at h;exact⟨h.2.symm,fun σ'=>by simp[hf,h.1]⟩
  .cases h
 | len x=>
  simp only[Ae]at h ⊢
  split at h
  .cases h;exact⟨rfl,fun _=>rfl⟩
  .cases h;exact⟨rfl,fun _=>rfl⟩
  .cases h;exact⟨rfl,fun _=>rfl⟩
  .cases h
 | lens x=>
  simp only[Ae]at h ⊢
  split at h
  .cases h;exact⟨rfl,fun _=>rfl⟩
  .cases h
 | mx x y=>
  simp only[Ae]at h ⊢
  split at h
  .split at h
   .rename_i hk;cases h;exact⟨rfl,fun _=>by simp only[if_pos hk]⟩
   .cases h
  .cases h
 | mn x y=>
  simp only[Ae]at h ⊢
  split at h
  .split at h
   .rename_i hk;cases h;exact⟨rfl,fun _=>by simp only[if_pos hk]⟩
   .cases h
  .cases h
def Aj7(σ σ':St):∀ (d:Nat) (v:V),Fk σ [] d v=Fk σ' [] d v
 | 0,_=>rfl
 | d+1,v=>by
  unfold Fk
  split
  .rfl
  .cases v<;>simp
def Ato(σ σ':St)(v:V):G0 σ [] v=G0 σ' [] v:=by
 unfold G0
 split
 .rfl
 .rw[show Fk σ [] 9=Fk σ' [] 9 from funext (Aj7 σ σ' 9)]
 .exact Aj7 σ σ' 9 v
def Aat{σ:St}{args:List V}(h:Am args=[]):N3 σ args=[]:=by
 unfold N3;rw[h];simp[Fw]
def Aau{σ:St}{args:List V}(h:Am args=[])(σ':St):Dl σ' args=Dl σ args:=by
 unfold Dl;rw[Aat h,Aat h,show G0 σ' []=G0 σ [] from funext (Ato σ' σ)]
def Ty{σ:St}{args:List V}(h:Am args=[])(v:V):after σ args v=σ:=by
 unfold after;rw[Aat h]
 split<;>rfl
inductive Stp (T:Nat->Option AF) (pr:Nat->Option (List V->Option V)):AI->Env->St->V->St->Prop
 | off {i:AI} {e:Env} {σ:St}:Ct e i=some false->Stp T pr i e σ .skp σ
 | val {i:AI} {e:Env} {σ σ1:St} {v:V}:Ct e i=some true->Ae i.op e σ=some (v,σ1)->Stp T pr i e σ v σ1
 | prim {d:Option Nat} {g:Option (Nat × Bool)} {f:Nat} {xs:List S} {e:Env} {σ:St} {s:List V->Option V} {vs:List V} {v:V}:Ct e ⟨d,.call f xs,g⟩=some true->pr f=some s->Am (xs.map (Ac e))=[] ->
   Dl [] (xs.map (Ac e))=some vs->s vs=some v->Stp T pr ⟨d,.call f xs,g⟩ e σ v σ
 | pure {d:Option Nat} {g:Option (Nat × Bool)} {f:Nat} {xs:List S} {e:Env} {σ:St} {vs:List V} {v:V}:Ct e ⟨d,.call f xs,g⟩=some true->Am (xs.map (Ac e))=[] ->
   Dl [] (xs.map (Ac e))=some vs->Fn T pr f vs v->Stp T pr ⟨d,.call f xs,g⟩ e σ v σ
 | thr {d:Option Nat} {g:Option (Nat × Bool)} {f:Nat} {xs:List S} {e:Env} {σ σ1:St} {F:AF} {v:V}:Ct e ⟨d,.call f xs,g⟩=some true->T f=some F->F.thr=true->F.spec=none->pr f=none ->
   Ev T pr (.fn f (xs.map (Ac e)) σ v σ1)->Stp T pr ⟨d,.call f xs,g⟩ e σ v σ1
 | spec {d:Option Nat} {g:Option (Nat × Bool)} {f:Nat} {xs:List S} {e:Env} {σ σ1:St} {F:AF} {s:List V->St->Option (V × St)} {v:V}:Ct e ⟨d,.call f xs,g⟩=some true->T f=some F->F.thr=true->F.spec=some s->pr f=none ->
   s (xs.map (Ac e)) σ=some (v,σ1)->Stp T pr ⟨d,.call f xs,g⟩ e σ v σ1
 | vprim {d:Option Nat} {g:Option (Nat × Bool)} {f:Nat} {x:S} {xs:List S} {args:List V} {e:Env} {σ:St} {s:List V->Option V} {vs:List V} {v:V}:Ct e ⟨d,.callv x xs,g⟩=some true->B7 e (.callv x xs)=some (f,args)->pr f=some s ->
   Dl σ args=some vs->s vs=some v->Stp T pr ⟨d,.callv x xs,g⟩ e σ v (after σ args v)
 | vpure {d:Option Nat} {g:Option (Nat × Bool)} {f:Nat} {x:S} {xs:List S} {args:List V} {e:Env} {σ:St} {vs:List V} {v:V}:Ct e ⟨d,.callv x xs,g⟩=some true->B7 e (.callv x xs)=some (f,args) ->
   Dl σ args=some vs->Fn T pr f vs v->Stp T pr ⟨d,.callv x xs,g⟩ e σ v (after σ args v)
 | vthr {d:Option Nat} {g:Option (Nat × Bool)} {f:Nat} {x:S} {xs:List S} {args:List V} {e:Env} {σ σ1:St} {F:AF} {v:V}:Ct e ⟨d,.callv x xs,g⟩=some true->B7 e (.callv x xs)=some (f,args)->T f=some F->F.thr=true->F.spec=none ->
   Ev T pr (.fn f args σ v σ1)->Stp T pr ⟨d,.callv x xs,g⟩ e σ v σ1
def Stp.ev{i:AI}{l:List AI}{e e':Env}{σ σ1 σ':St}{v:V}(h:Stp T pr i e σ v σ1)(g:Ev T pr (.ops l (e.putO i.dst v) σ1 e' σ')):Ev T pr (.ops (i::l) e σ e' σ'):=by
 cases h with
 | off hw=>exact .opsSkip hw g
 | val hw hv=>exact .opsVal hw hv g
 | prim hw hp hn hx hs=>exact .opsPrim hw rfl hp ((Aau hn _).trans hx) hs (by rw[Ty hn];exact g)
 | pure hw hn hx hf=>
  obtain⟨F,h1,h2,qc,v0,σ0,h3,h4⟩:=hf;exact .opsPure hw rfl h1 h2 qc ((Aau hn _).trans hx) h3 h4 (by rw[Ty hn];exact g)
 | thr hw h1 h2 qc _ h3=>exact .opsThr hw rfl h1 h2 qc h3 g
 | spec hw h1 h2 qc _ h3=>exact .opsSpec hw rfl h1 h2 qc h3 g
 | vprim hw hc hp hx hs=>exact .opsPrim hw hc hp hx hs g
 | vpure hw hc hx hf=>
  obtain⟨F,h1,h2,qc,v0,σ0,h3,h4⟩:=hf;exact .opsPure hw hc h1 h2 qc hx h3 h4 g
 | vthr hw hc h1 h2 qc h3=>exact .opsThr hw hc h1 h2 qc h3 g
def Ajk{e e':Env}{i:AI}(h:Agree e e' i.rd):Ct e i=Ct e' i:=by
 unfold Ct
 cases hg:i.g with
 | none=>rfl
 | some p=>
  obtain⟨t,b⟩:=p;have:=h t (by simp[AI.rd,hg]);simp only[this]
def Zy{e e':Env}{x:S}{xs:List S}(h:Agree e e' (AO.callv x xs).rd):B7 e (.callv x xs)=B7 e' (.callv x xs):=by
 have h':Agree e e' (x.rd++xs.flatMap S.rd):=h;simp only[B7];rw[B9 h'.l,On h'.r]
def Stp.move{i:AI}{e e':Env}{σ σ1:St}{v:V}(h:Stp T pr i e σ v σ1)(ha:Agree e e' i.rd):
  Stp T pr i e' σ v σ1/\(Fm T pr i.op≠2->σ1=σ)/\(Fm T pr i.op=0->∀ σ',Stp T pr i e' σ' v σ') /\
  (∀ n one x,i.op=.load n one x->∀ σ',H9 σ' n one (Ac e x)=H9 σ n one (Ac e x)->Stp T pr i e' σ' v σ'):=by
 have hw:=Ajk ha
 cases h with
 | off h=>exact⟨.off (hw ▸ h),fun _=>rfl,fun _ σ'=>.off (hw ▸ h),fun _ _ _ _ σ' _=>.off (hw ▸ h)⟩
 | val h hv=>
  have he:=Ak6 (op:=i.op) ha.l;refine⟨.val (hw ▸ h) (he σ ▸ hv),fun hc=>?_,fun hc σ'=>?_,fun n one x qk σ' hl=>?_⟩
  .by_cases h0:Fm T pr i.op=0
   .exact(Z3 h0 hv).1
   .cases qk:i.op with
    | load n one x=>
     rw[qk]at hv;simp only[Ae,Bo]at hv;obtain⟨_,_,h⟩:=hv;cases h;rfl
    | _=>rw[qk]at h0 hc hv;simp[Fm]at h0 hc<;>simp[Ae]at hv
  .exact .val (hw ▸ h) (he σ' ▸ (Z3 hc hv).2 σ')
  .refine .val (hw ▸ h) (he σ' ▸ ?_);rw[qk]at hv ⊢;simp only[Ae]at hv ⊢;rw[hl]
   cases qE:H9 σ n one (Ac e x) with
   | none=>rw[qE]at hv;simp at hv
   | some y=>rw[qE]at hv;simp at hv;simp[hv.1]
 | prim h hp hn hx hs=>
  have hm:=On (xs:=_) (show Agree e e' _ from ha.l);rw[hm]at hx hn;exact⟨.prim (hw ▸ h) hp hn hx hs,fun _=>rfl,fun _ σ'=>.prim (hw ▸ h) hp hn hx hs,fun _ _ _ qk=>by cases qk⟩
 | pure h hn hx hf=>
  have hm:=On (xs:=_) (show Agree e e' _ from ha.l);rw[hm]at hx hn;exact⟨.pure (hw ▸ h) hn hx hf,fun _=>rfl,fun _ σ'=>.pure (hw ▸ h) hn hx hf,fun _ _ _ qk=>by cases qk⟩
 | spec h h1 h2 qc hp h3=>
  have hm:=On (xs:=_) (show Agree e e' _ from ha.l);rw[hm]at h3;refine⟨.spec (hw ▸ h) h1 h2 qc hp h3,fun hc=>?_,fun hc=>?_,fun _ _ _ qk=>by cases qk⟩
  .simp[Fm,hp,h1,h2]at hc
  .simp[Fm,hp,h1,h2]at hc
 | thr h h1 h2 qc hp h3=>
  have hm:=On (xs:=_) (show Agree e e' _ from ha.l);rw[hm]at h3;refine⟨.thr (hw ▸ h) h1 h2 qc hp h3,fun hc=>?_,fun hc=>?_,fun _ _ _ qk=>by cases qk⟩
  .simp[Fm,hp,h1,h2]at hc
  .simp[Fm,hp,h1,h2]at hc
 | vprim h hc hp hx hs=>exact⟨.vprim (hw ▸ h) (by rw[<-Zy ha.l];exact hc) hp hx hs,fun hc=>by simp[Fm]at hc,fun hc=>by simp[Fm]at hc,fun _ _ _ qk=>by cases qk⟩
 | vpure h hc hx hf=>exact⟨.vpure (hw ▸ h) (by rw[<-Zy ha.l];exact hc) hx hf,fun hc=>by simp[Fm]at hc,fun hc=>by simp[Fm]at hc,fun _ _ _ qk=>by cases qk⟩
 | vthr h hc h1 h2 qc h3=>exact⟨.vthr (hw ▸ h) (by rw[<-Zy ha.l];exact hc) h1 h2 qc h3,fun hc=>by simp[Fm]at hc,fun hc=>by simp[Fm]at hc,fun _ _ _ qk=>by cases qk⟩
variable {T:Nat->Option AF} {pr:Nat->Option (List V->Option V)}
def Ek(qa:List (List Nat)):Nat->Nat->Nat->Bool
 | 0,_,_=>false
 | f+1,j,i=>(qa.getD j []).any fun d=>d==i||Ek qa f d i
def A8b(T:Nat->Option AF)(pr:Nat->Option (List V->Option V))(x y:AI):Bool:=
 (match x.dst with
  | some d=>!y.rd.elem d&&!(y.dst==some d)
  | none=>true)&&((match y.dst with
  | some d=>!x.rd.elem d
  | none=>true)&&!(Fm T pr x.op==2&&Fm T pr y.op==2))
def A0q(T:Nat->Option AF)(pr:Nat->Option (List V->Option V))(qa:List (List Nat))(ops:List AI):Bool:=
 qa.length==ops.length&&(List.range ops.length).all fun j=>((qa.getD j []).all fun d=>decide (d<j))&&(List.range j).all fun i=>Ek qa ops.length j i||(match ops[i]?,ops[j]? with
  | some x,some y=>A8b T pr x y
  | _,_=>false)
variable {T:Nat->Option AF} {pr:Nat->Option (List V->Option V)}
def Ak7:∀ (n:Nat) (l:List Nat),l.Nodup->(∀ x∈l,x<n)->l.length<=n
 | 0,[],_,_=>Ai _
 | 0,x::_,_,h=>absurd (h x (by simp)) (by omega)
 | n+1,l,hn,h=>by
  have h1:=Ak7 n (l.erase n) (hn.erase n) (fun x hx=>by
   have:=(List.Nodup.mem_erase_iff hn).1 hx;have:=h x this.2
   omega)
  rw[List.length_erase]at h1
  split at h1<;>omega
def Z8:∀ (n:Nat) (l:List Nat),(∀ j,j<n->j∈l)->n<=l.length
 | 0,_,_=>A0 _
 | n+1,l,h=>by
  have h1:=Z8 n (l.erase n) (fun j hj=>(List.mem_erase_of_ne (by omega)).2 (h j (by omega)));have hn:=h n (by omega);rw[List.length_erase,if_pos hn]at h1;have:=Adl hn;omega
def Ap9{n:Nat}{l:List Nat}(hn:l.Nodup)(h:∀ x∈l,x<n)(hl:l.length=n){j:Nat}(hj:j<n):j∈l:=by
 rcases Classical.em (j∈l) with h' | h'
 .exact h'
 .have:=Ak7 n (j::l) (Zr.2 ⟨h',hn⟩) (fun x hx=>by
   rcases Bi.1 hx with rfl | hx
   .exact hj
   .exact h x hx)
  simp at this;omega
def Mv(qa:List (List Nat)):Nat->Nat->List Nat->List Nat
 | 0,_,_=>[]
 | fuel+1,t,qe=>
  match ((List.range qa.length).filter (K7 qa qe))[t % ((List.range qa.length).filter (K7 qa qe)).length]? with
  | some i=>i::Mv qa fuel (t / ((List.range qa.length).filter (K7 qa qe)).length) (i::qe)
  | none=>[]
def Ae8(qa:List (List Nat)):∀ (fuel t:Nat) (qe:List Nat),Nx qa fuel t qe=qe.reverse++Mv qa fuel t qe
 | 0,_,qe=>by simp[Nx,Mv]
 | fuel+1,t,qe=>by
  unfold Nx Mv;simp only
  split
  .rename_i i hi;rw[Ae8 qa fuel _ (i::qe),hi];simp
  .rename_i hi;rw[hi];simp
section
variable {qa:List (List Nat)} {ops:List AI} {e e1:Env} {σ σ1:St} {jp:Nat->Env} {st:Nat->St} {val:Nat->V}
def DC(qa:List (List Nat))(qe:List Nat):Prop:=∀ j∈qe,∀ d∈qa.getD j [],d∈qe
def P5{qe:List Nat}(h:DC qa qe):∀ (f j i:Nat),Ek qa f j i=true->j∈qe->i∈qe
 | 0,_,_,hb,_=>by simp[Ek]at hb
 | f+1,j,i,hb,hj=>by
  simp only[Ek,Nf,Ij,beq_iff_eq]at hb;obtain⟨d,hd,hb⟩:=hb;have qQ:=h j hj d hd;rcases hb with rfl | hb
  .exact qQ
  .exact P5 h f d i hb qQ
def Tz{qe:List Nat}(h:DC qa qe){f j i:Nat}(hr:∀ d∈qa.getD j [],d∈qe)(hb:Ek qa f j i=true):i∈qe:=by
 cases f with
 | zero=>simp[Ek]at hb
 | succ f=>
  simp only[Ek,Nf,Ij,beq_iff_eq]at hb;obtain⟨d,hd,hb⟩:=hb;rcases hb with rfl | hb
  .exact hr d hd
  .exact P5 h f d i hb (hr d hd)
def My(ops:List AI)(j:Nat):Option Nat:=(ops[j]?).bind (·.dst)
def EnvOK(ops:List AI)(val:Nat->V)(e:Env)(M:Nat->Prop)(E:Env):Prop:=
 ∀ t,(∃ j,M j/\My ops j=some t/\(∀ j',M j'->My ops j'=some t->j'<=j)/\E.get t=val j)\/((∀ j,M j->My ops j≠some t)/\E.get t=e.get t)
def EnvOK.put{M:Nat->Prop}{E:Env}{i:Nat}{x:AI}(h:EnvOK ops val e M E)(hx:ops[i]?=some x)(qq:∀ j t,M j->x.dst=some t->My ops j=some t->j<i):EnvOK ops val e (fun j=>j=i\/M j) (E.putO x.dst (val i)):=by
 intro t;have qF:My ops i=x.dst:=by simp[My,hx]
 cases hd:x.dst with
 | none=>
  simp only[Env.putO];rcases h t with⟨j,h1,h2,h3,h4⟩ | ⟨h1,h2⟩
  .exact .inl ⟨j,.inr h1,h2,fun j' qo ht=>by
    rcases qo with rfl | qo
    .rw[qF,hd]at ht;cases ht
    .exact h3 j' qo ht,h4⟩
  .exact .inr ⟨fun j hj=>by
    rcases hj with rfl | hj
    .rw[qF,hd];simp
    .exact h1 j hj,h2⟩
 | some d=>
  simp only[Env.putO];rw[Env.get_put];by_cases qK:d=t
  .subst qK;rw[if_pos rfl]
   exact .inl ⟨i,.inl rfl,by rw[qF,hd],fun j' qo ht=>by
    rcases qo with rfl | qo
    .exact Ai _
    .exact Wj (qq j' d qo hd ht),rfl⟩
  .rw[if_neg qK];rcases h t with⟨j,h1,h2,h3,h4⟩ | ⟨h1,h2⟩
   .exact .inl ⟨j,.inr h1,h2,fun j' qo ht=>by
     rcases qo with rfl | qo
     .rw[qF,hd]at ht;cases ht;exact absurd rfl qK
     .exact h3 j' qo ht,h4⟩
   .exact .inr ⟨fun j hj=>by
     rcases hj with rfl | hj
     .rw[qF,hd];intro h;cases h;exact qK rfl
     .exact h1 j hj,h2⟩
def EnvOK.same{M M':Nat->Prop}{E E':Env}(h:EnvOK ops val e M E)(h':EnvOK ops val e M' E'){t:Nat}(ht:∀ j,My ops j=some t->(M j↔M' j)):E.get t=E'.get t:=by
 rcases h t with⟨j,h1,h2,h3,h4⟩ | ⟨h1,h2⟩
 .rcases h' t with⟨k,k1,k2,k3,k4⟩ | ⟨k1,k2⟩
  .have a1:=h3 k ((ht k k2).2 k1) k2;have a2:=k3 j ((ht j h2).1 h1) h2;rw[h4,k4,Nat.le_antisymm a2 a1]
  .exact absurd h2 (k1 j ((ht j h2).1 h1))
 .rcases h' t with⟨k,k1,k2,k3,k4⟩ | ⟨k1,k2⟩
  .exact absurd k2 (h1 k ((ht k k2).2 k1))
  .rw[h2,k2]
def EnvOK.iff{M M':Nat->Prop}{E:Env}(h:EnvOK ops val e M E)(hm:∀ j,M j↔M' j):EnvOK ops val e M' E:=by
 have:M=M':=funext fun j=>propext (hm j)
 rw[<-this];exact h
end
variable {T:Nat->Option AF} {pr:Nat->Option (List V->Option V)}
def rwB(T:Nat->Option AF)(pr:Nat->Option (List V->Option V))(x y:AI):Bool:=!((Fm T pr x.op==1&&Fm T pr y.op==2)||(Fm T pr x.op==2&&Fm T pr y.op==1))
def A8c(T:Nat->Option AF)(pr:Nat->Option (List V->Option V))(qa:List (List Nat))(ops:List AI):Bool:=
 A0q T pr qa ops&&(List.range ops.length).all fun j=>(List.range j).all fun i=>Ek qa ops.length j i||(match ops[i]?,ops[j]? with
  | some x,some y=>rwB T pr x y
  | _,_=>false)
section
variable {Q:Env->St->Prop} {e:Env} {σ:St}
end
variable {T:Nat->Option AF} {pr:Nat->Option (List V->Option V)}
abbrev J6:=List It->Env->St->Option (Env × St)
abbrev Pe:=Nat->List V->St->Option (V × St)
def Asf(F:AF)(n:Nat)(p:Env × St):Option (V × St):=(Ch p.1 p.2 F.res).bind fun v=>leave n v p.2
def Jy(rc:J6)(F:AF)(vs:List V)(σ:St):Option (V × St):=
 if vs.length=F.pars then(rc [.c F.body] (Da 0 vs) σ).bind (Asf F σ.length) else none
def Yh(rc:J6)(F:AF)(args:List V)(σ:St):Option (V × St):=
 (Dl σ args).bind fun ws=>(Jy rc F ws []).bind fun p=>(Es p.2 p.1).map fun v=>(v,after σ args v)
def Mz(T:Nat->Option AF)(pr:Nat->Option (List V->Option V))(rc:J6)(qb:Bool):Pe:=fun f args σ=>
 match pr f with
 | some s=>if qb&&!(Am args).isEmpty then none else(Dl σ args).bind fun ws=>(s ws).map fun v=>(v,after σ args v)
 | none=>match T f with
  | none=>none
  | some F=>match F.thr,F.spec with
   | true,some s=>s args σ
   | true,none=>Jy rc F args σ
   | false,none=>if qb&&!(Am args).isEmpty then none else Yh rc F args σ
   | false,some _=>none
def Aof:AO->Bool
 | .callv _ _=>true
 | _=>false
def X1:AO->Bool
 | .call _ _ | .callv _ _=>true
 | _=>false
def Sz(rf:Bool->Pe)(qb:Bool)(op:AO)(e:Env)(σ:St):Option (V × St):=
 if X1 op then(if qb&&Aof op then none else(B7 e op).bind fun p=>rf qb p.1 p.2 σ) else Ae op e σ
def Q9(rf:Bool->Pe)(qb:Bool):List AI->Env->St->Option (Env × St)
 | [],e,σ=>some (e,σ)
 | i::l,e,σ=>match Ct e i with
  | some true=>(Sz rf qb i.op e σ).bind fun p=>Q9 rf qb l (e.putO i.dst p.1) p.2
  | some false=>Q9 rf qb l (e.putO i.dst .skp) σ
  | none=>none
def Arr:V->Option Bool
 | .bool b=>some b
 | _=>none
/-! more steps give no other result -/
def LeC(a b:J6):Prop:=∀ k e σ r,a k e σ=some r->b k e σ=some r
def LeF(a b:Bool->Pe):Prop:=∀ s f vs σ r,a s f vs σ=some r->b s f vs σ=some r
def LeC.body{a b:J6}(h:LeC a b){F:AF}{vs:List V}{σ:St}{r:V × St}(hr:Jy a F vs σ=some r):Jy b F vs σ=some r:=by
 unfold Jy at hr ⊢
 split at hr
 .rename_i hl;rw[if_pos hl];obtain⟨p,hp,hr⟩:=D7.1 hr;rw[h _ _ _ _ hp];exact hr
 .cases hr
def LeC.pure{a b:J6}(h:LeC a b){F:AF}{vs:List V}{σ:St}{r:V × St}(hr:Yh a F vs σ=some r):Yh b F vs σ=some r:=by
 unfold Yh at hr ⊢;obtain⟨ws,hw,hr⟩:=D7.1 hr;obtain⟨p,hp,hr⟩:=D7.1 hr;rw[hw,C7,h.body hp];exact hr
def LeC.call{a b:J6}(h:LeC a b):LeF (Mz T pr a) (Mz T pr b):=by
 intro s f vs σ r hr;unfold Mz at hr ⊢
 split at hr
 .exact hr
 .split at hr
  .cases hr
  .split at hr
   .exact hr
   .exact h.body hr
   .split at hr
    .cases hr
    .rename_i hs;rw[if_neg hs];exact h.pure hr
   .cases hr
def LeF.op{a b:Bool->Pe}(h:LeF a b){s:Bool}{op:AO}{e:Env}{σ:St}{r:V × St}(hr:Sz a s op e σ=some r):Sz b s op e σ=some r:=by
 unfold Sz at hr ⊢
 split at hr
 .rename_i hc;rw[if_pos hc]
  split at hr
  .cases hr
  .rename_i hs;rw[if_neg hs];obtain⟨p,hp,hr⟩:=D7.1 hr;rw[hp,C7];exact h _ _ _ _ _ hr
 .rename_i hc;rw[if_neg hc];exact hr
def LeF.ops{a b:Bool->Pe}(h:LeF a b){s:Bool}:∀ {l:List AI} {e:Env} {σ:St} {r:Env × St},Q9 a s l e σ=some r->Q9 b s l e σ=some r
 | [],_,_,_,hr=>hr
 | i::l,e,σ,r,hr=>by
  unfold Q9 at hr ⊢
  split at hr
  .obtain⟨p,hp,hr⟩:=D7.1 hr;rw[h.op hp];exact h.ops hr
  .exact h.ops hr
  .cases hr
/-! what the function gives comes of the code -/
def Si(T:Nat->Option AF)(pr:Nat->Option (List V->Option V)):AC->Bool
 | .drw _ qa ops=>A8c T pr qa ops
 | .seq a b=>Si T pr a&&Si T pr b
 | .cond _ _ a b=>Si T pr a&&Si T pr b
 | .blk _ c=>Si T pr c
 | .loop _ c=>Si T pr c
 | _=>true
section
variable (qV:∀ f F,T f=some F->F.spec=none->Si T pr F.body=true)
def Axe{n:Nat}{v v':V}{σ1 σ':St}(h:leave n v σ1=some (v',σ')):(Cq v=true/\Ey n [] v.refs=true/\(∀ i ob,i<n->σ1[i]?=some ob->Ey n [] ob.refs=true)/\v'=v/\σ'=σ1.take n)\/∃ js,Hz n js v σ1=true/\v'=v.ren (ren n js)/\σ'=(σ1.take n++js.filterMap (σ1[·]?)).map (Ob.ren (ren n js)):=by
 unfold leave at h
 split at h
 .rename_i hn;cases h;unfold Aks at hn;simp only[Af,Bh]at hn;exact .inl ⟨hn.1,hn.2.1,fun i ob hi ho=>hn.2.2 ob (Hx (by rw[Fi,if_pos hi];exact ho)),rfl,rfl⟩
 .simp only at h
  split at h
  .rename_i hs;cases h;exact .inr ⟨_,hs,rfl,rfl⟩
  .cases h
inductive CallR (T:Nat->Option AF) (pr:Nat->Option (List V->Option V)) (qb:Bool) (f:Nat) (args:List V) (σ:St):V->St->Prop
 | prim {s:List V->Option V} {ws:List V} {v:V}:pr f=some s->(qb=true->Am args=[])->Dl σ args=some ws->s ws=some v->CallR T pr qb f args σ v (after σ args v)
 | pure {ws:List V} {v:V}:(qb=true->Am args=[])->Dl σ args=some ws->Fn T pr f ws v->CallR T pr qb f args σ v (after σ args v)
 | thr {F:AF} {v:V} {σ1:St}:pr f=none->T f=some F->F.thr=true->F.spec=none->Ev T pr (.fn f args σ v σ1)->CallR T pr qb f args σ v σ1
 | spec {F:AF} {s:List V->St->Option (V × St)} {v:V} {σ1:St}:pr f=none->T f=some F->F.thr=true->F.spec=some s->s args σ=some (v,σ1)->CallR T pr qb f args σ v σ1
def Aog{rf:Bool->Pe}{s:Bool}{op:AO}{e:Env}{σ:St}{r:V × St}(h:Sz rf s op e σ=some r):(X1 op=false/\Ae op e σ=some r)\/∃ f args,B7 e op=some (f,args)/\rf s f args σ=some r/\(s=true->∃ xs,op=.call f xs/\args=xs.map (Ac e)):=by
 unfold Sz at h
 split at h
 .rename_i hc
  split at h
  .cases h
  .rename_i hs;obtain⟨⟨f,args⟩,hp,h⟩:=D7.1 h;refine .inr ⟨f,args,hp,h,fun qV=>?_⟩;subst qV
   cases op with
   | call f' xs=>
    simp only[B7]at hp;cases hp;exact⟨xs,rfl,rfl⟩
   | callv x xs=>simp[Aof]at hs
   | _=>simp[X1]at hc
 .rename_i hc;exact .inl ⟨by simpa using hc,h⟩
end
