/- Code that may end in several states, whatever is drawn: what it promises, that it is right, walking. -/
import Derived.Test.YtlehfgdhebapeaaGreatDoorQs
set_option linter.all false
namespace Go.Proofs.YtlehfgdhebapeaaGreatDoor.KM
open Go Go.RowKit
inductive EvM (T:Nat→Option AF) (pr:Nat→Option (List V→Option V)):List It→Env→St→(Env→St→Prop)→Prop
 | done {k:List It} {e e':Env} {σ σ':St} {Q:Env→St→Prop}:Ev T pr (.code k e σ e' σ')→Q e' σ'→EvM T pr k e σ Q
 | skip {k:List It} {e:Env} {σ:St} {Q:Env→St→Prop}:EvM T pr k e σ Q→EvM T pr (.c .skip::k) e σ Q
 | reg {kill:List Nat} {ops:List AI} {k:List It} {e e1:Env} {σ σ1:St} {Q:Env→St→Prop}:Ev T pr (.ops ops e σ e1 σ1)→EvM T pr k (e1.del kill) σ1 Q→EvM T pr (.c (.reg kill ops)::k) e σ Q
 | drw {kill:List Nat} {deps:List (List Nat)} {ops:List AI} {k:List It} {e:Env} {σ:St} {Q:Env→St→Prop} (E2 E3:Nat→Env) (S2:Nat→St):(∀ t,Ev T pr (.ops (pickAI ops (lin deps t)) e σ (E2 t) (S2 t)))→(∀ t n,(E2 t).get n=(E3 t).get n)→(∀ t,EvM T pr k ((E3 t).del kill) (S2 t) Q)→EvM T pr (.c (.drw kill deps ops)::k) e σ Q
 | seq {a b:AC} {k:List It} {e:Env} {σ:St} {Q:Env→St→Prop}:EvM T pr (.c a::.c b::k) e σ Q→EvM T pr (.c (.seq a b)::k) e σ Q
 | cond {c:S} {kill:List Nat} {x y:AC} {k:List It} {e:Env} {σ:St} {Q:Env→St→Prop} {z:Bool}:src e c=.bool z→EvM T pr (.c (if z then x else y)::k) (e.del kill) σ Q→EvM T pr (.c (.cond c kill x y)::k) e σ Q
 | blk {id:Nat} {c:AC} {k:List It} {e:Env} {σ:St} {Q:Env→St→Prop}:EvM T pr (.c c::.b id::k) e σ Q→EvM T pr (.c (.blk id c)::k) e σ Q
 | bend {id:Nat} {k:List It} {e:Env} {σ:St} {Q:Env→St→Prop}:EvM T pr k e σ Q→EvM T pr (.b id::k) e σ Q
 | loop {keep:List Nat} {c:AC} {k:List It} {e:Env} {σ:St} {Q:Env→St→Prop}:EvM T pr (.l keep c::k) e σ Q→EvM T pr (.c (.loop keep c)::k) e σ Q
 | again {keep:List Nat} {c:AC} {k:List It} {e:Env} {σ:St} {Q:Env→St→Prop}:EvM T pr (.c c::.l keep c::k) (e.keep keep) σ Q→EvM T pr (.l keep c::k) e σ Q
 | exit {id:Nat} {k k':List It} {e:Env} {σ:St} {Q:Env→St→Prop}:exitTo id k=some k'→EvM T pr k' e σ Q→EvM T pr (.c (.exit id)::k) e σ Q
 | env {k:List It} {e e':Env} {σ:St} {Q:Env→St→Prop}:(∀ m,e.get m=e'.get m)→EvM T pr k e' σ Q→EvM T pr k e σ Q
section
variable {P:Program} {G:List (Nat × List V)} {T:Nat→Option AF} {pr:Nat→Option (List V→Option V)}
def After(G:List (Nat × List V))(N n:Nat)(D:List Deferred)(γ:Gh)(σ:St)(w:World)(b:Frame)(cs:List Frame)(m:Machine)(P:Program)(Q:Env→St→Prop):Prop:=
 ∃ e' σ',Q e' σ'∧∃ a' w' todo',Steps P m (lone { b.at a' todo' with mode:=.returning } cs w')∧Leaves G N n D γ σ w e' σ' a' w'
theorem after_m{N n:Nat}{D:List Deferred}{γ γ1:Gh}{σ σ1:St}{w w1:World}{b:Frame}{cs:List Frame}{m m1:Machine}{Q:Env→St→Prop}(hs:Steps P m m1)(hx:Ext γ w γ1 w1)(hb:Below N w w1)(hk:∀ b,b<N→γ1.κ b=γ.κ b):After G N n D γ1 σ1 w1 b cs m1 P Q→After G N n D γ σ w b cs m P Q
 | ⟨e',σ',q,a',w',t',h1,h2⟩=>⟨e',σ',q,a',w',t',Steps.trans hs h1,h2.after hx hb hk⟩
theorem soundM(hT:∀ f F,T f=some F→F.spec=none→okF P G f F=true)(hS:∀ f F s,T f=some F→F.spec=some s→ThrOk P G f s)(hpr:∀ f s,pr f=some s→PrimOk P G f s){k:List It}{e:Env}{σ:St}{Q:Env→St→Prop}(h:EvM T pr k e σ Q):
  ∀ (n:Nat) (D:List Deferred) (todo:List Item) (a:Act) (w:World) (γ:Gh) (N:Nat),MK P G n k todo→a.tmps.size=n→a.defers=D→RepE γ w e a.tmps→Inv G N γ σ w→∀ (b:Frame) (cs:List Frame),After G N n D γ σ w b cs (lone (b.at a todo) cs w) P Q:=by
 induction h with
 | done h hq=>
  intro n D todo a w γ N hM ha hd hE hI b cs
  exact⟨_,_,hq,sound hT hS hpr h n D todo a w γ N hM ha hd hE hI b cs⟩
 | skip _ ih=>
  intro n D todo a w γ N hM ha hd hE hI b cs
  cases hM with
  | c hok hM=>
   obtain rfl:=okC_skip hok
   exact after_m (.one step_skip) (Ext.refl _ _) (Below.refl _ _) (fun _ _=>rfl) (ih n D _ a w γ N hM ha hd hE hI b cs)
 | @reg kill ais k e e1 σ σ1 Q h1 _ ih2=>
  intro n D todo a w γ N hM ha hd hE hI b cs
  cases hM with
  | @c _ _ _ todo' hok hM=>
   obtain⟨id,ops,rfl,hops⟩:=okC_reg hok
   have hw:=sound hT hS hpr h1 n D ops (List.range ops.size) a w γ N (fun ex a' w'=>ex=.normal∧Leaves G N n D γ σ w e1 σ1 a' w') (by
    have:=ML_range ais ops.toList 0 hops (by simp)
    rw[List.range_eq_range']
    simpa using this) ha hd hE hI (fun a' w' h=>⟨rfl,h⟩)
   obtain⟨ex,a1,w1,⟨rfl,γ1,q1,q2,q3,q4,q5,q6,q7⟩,harr⟩:=wp_ops _ a w hw b todo' cs
   exact after_m (.head step_region harr) q3 q4 q5 (ih2 n D _ a1 w1 γ1 N hM q6 q7 (q1.del kill) q2 b cs)
 | @drw kill deps ais k e σ Q E2 E3 S2 hE1 hE2 _ ih2=>
  intro n D todo a w γ N hM ha hd hE hI b cs
  cases hM with
  | @c _ _ _ todo' hok hM=>
   obtain⟨id,ops,rfl,hops,hdeps,hmix⟩:=okC_drw hok
   obtain⟨d1,d2⟩:=hI.drew
   have hlen:deps.length=ops.size:=by simpa using (deps_get hdeps).1
   have hsch:∀ t,Region.schedule (P.follows .mixedOrders) ops t=lin deps t:=fun t=>by
    unfold Region.schedule
    rw[hmix]
    simpa using lin_eq hdeps t
   have hstep:=step_region_draw (P:=P) (b:=b) (a:=a) (k:=todo') (cs:=cs) (w:=w) (ops:=ops) (id:=id)
   rw[hsch]at hstep
   generalize w.tape w.drawn (.order b.fn id)=t at hstep
   have hw:=sound hT hS hpr (hE1 t) n D ops (lin deps t) a w.drew γ N (fun ex a' w'=>ex=.normal∧Leaves G N n D γ σ w.drew (E2 t) (S2 t) a' w')
    (ML_pick hops _ (fun i hi=>by rw[←hlen];exact lin_lt deps _ _ [] (fun i hi=>by cases hi) i hi)) ha hd (hE.ext d2) d1 (fun a' w' h=>⟨rfl,h⟩)
   obtain⟨ex,a1,w1,⟨rfl,γ1,q1,q2,q3,q4,q5,q6,q7⟩,harr⟩:=wp_ops _ a w.drew hw b todo' cs
   have q1':RepE γ1 w1 (E3 t) a1.tmps:=fun m=>by rw[←hE2 t m];exact q1 m
   exact after_m (σ1:=σ) (.one hstep) d2 (Below.refl _ _).drew (fun _ _=>rfl) (after_m harr q3 q4 q5 (ih2 t n D _ a1 w1 γ1 N hM q6 q7 (q1'.del kill) q2 b cs))
 | seq _ ih=>
  intro n D todo a w γ N hM ha hd hE hI b cs
  cases hM with
  | c hok hM=>
   obtain⟨c1,c2,rfl,h1,h2⟩:=okC_seq hok
   exact after_m (.one step_seq) (Ext.refl _ _) (Below.refl _ _) (fun _ _=>rfl) (ih n D _ a w γ N (.c h1 (.c h2 hM)) ha hd hE hI b cs)
 | @cond s kill x y k e σ Q z hc _ ih=>
  intro n D todo a w γ N hM ha hd hE hI b cs
  cases hM with
  | c hok hM=>
   obtain⟨o,c1,c2,rfl,h1,h2,h3⟩:=okC_cond hok
   have hr:=okS_rep (a:=a) h1 hE hI
   rw[hc]at hr
   have hz:=repC_bool (repV_cell rfl hr)
   exact after_m (.one (step_cond hz)) (Ext.refl _ _) (Below.refl _ _) (fun _ _=>rfl) (ih n D _ a w γ N (.c (c:=if z then c1 else c2) (by cases z<;>assumption) hM) ha hd (hE.del kill) hI b cs)
 | blk _ ih=>
  intro n D todo a w γ N hM ha hd hE hI b cs
  cases hM with
  | c hok hM=>
   obtain⟨c1,rfl,h1⟩:=okC_blk hok
   exact after_m (.one step_block) (Ext.refl _ _) (Below.refl _ _) (fun _ _=>rfl) (ih n D _ a w γ N (.c h1 (.b hM)) ha hd hE hI b cs)
 | bend _ ih=>
  intro n D todo a w γ N hM ha hd hE hI b cs
  cases hM with
  | b hM=>exact after_m (.one step_inBlock) (Ext.refl _ _) (Below.refl _ _) (fun _ _=>rfl) (ih n D _ a w γ N hM ha hd hE hI b cs)
 | loop _ ih=>
  intro n D todo a w γ N hM ha hd hE hI b cs
  cases hM with
  | c hok hM=>
   obtain⟨c1,rfl,h1⟩:=okC_loop hok
   exact ih n D _ a w γ N (.l' h1 hM) ha hd hE hI b cs
 | @again keep c k e σ Q _ ih=>
  intro n D todo a w γ N hM ha hd hE hI b cs
  cases hM with
  | l hok hM=>exact after_m (.one step_inLoop) (Ext.refl _ _) (Below.refl _ _) (fun _ _=>rfl) (ih n D _ a w γ N (.c hok (.l hok hM)) ha hd (hE.keep keep) hI b cs)
  | l' hok hM=>exact after_m (.one step_loop) (Ext.refl _ _) (Below.refl _ _) (fun _ _=>rfl) (ih n D _ a w γ N (.c hok (.l hok hM)) ha hd (hE.keep keep) hI b cs)
 | exit hk _ ih=>
  intro n D todo a w γ N hM ha hd hE hI b cs
  cases hM with
  | c hok hM=>
   obtain rfl:=okC_exit hok
   obtain⟨t2,h1,h2⟩:=hM.exit hk
   exact after_m (.one (step_exit h1)) (Ext.refl _ _) (Below.refl _ _) (fun _ _=>rfl) (ih n D _ a w γ N h2 ha hd hE hI b cs)
 | env he _ ih=>
  intro n D todo a w γ N hM ha hd hE hI b cs
  exact ih n D todo a w γ N hM ha hd (fun m=>by rw[←he m];exact hE m) hI b cs
theorem primM(hT:∀ f F,T f=some F→F.spec=none→okF P G f F=true)(hS:∀ f F s,T f=some F→F.spec=some s→ThrOk P G f s)(hpr:∀ f s,pr f=some s→PrimOk P G f s){f:Nat}{F:AF}{s:List V→Option V}(hF:T f=some F)(hsp:F.spec=none)
  (h:∀ vs v,s vs=some v→vs.length=F.pars∧∃ z,v=.bool z∧EvM T pr [.c F.body] (parEnv 0 vs) [] (fun e' σ'=>resV e' σ' F.res=some (.bool z))):PrimOk P G f s:=by
 obtain⟨fn,c,hf,hb,hC,hR,hpars,hn⟩:=okF_some (hT f F hF hsp)
 refine⟨⟨fn,c,hf,hb,hn⟩,fun κ w vs us v hg hs hd hl ha hv=>?_⟩
 obtain⟨hlp,z,rfl,hM⟩:=h vs v hv
 have hI:Inv G w.heap.size ⟨κ,[]⟩ [] w:=
  { base:=Nat.le_refl _,len:=rfl,nd:=List.nodup_nil,low:=fun i p h=>by simp at h,obj:=fun i ob p h=>by simp at h,dom:=hd,glob:=hg,
    gsz:=fun g r hm=>And.intro (by
     have:=hs g r hm
     unfold sizeOf? at this
     split at this
     ·rename_i hh;exact(Array.getElem?_eq_some_iff.1 hh).1
     ·cases this) (hs g r hm) }
 have hrep:∀ j,j<vs.length→RepV ⟨κ,[]⟩ w (vs.getD j .und) (us.getD j undef):=fun j hj=>.one (ha j hj)
 intro cs
 let b:Frame:={ (default:Frame) with fn:=f,kind:=.normal }
 have hsz:(us.toArray++Array.replicate (fn.ntmps - us.toArray.size) undef).size=fn.ntmps:=by simp;omega
 have henter:Frame.enter P f us.toArray .normal=b.at { tmps:=us.toArray++Array.replicate (fn.ntmps - us.toArray.size) undef,defers:=[] } [.code c]:=by
  simp[Frame.enter,Frame.at,hf,hb,b]
 have hE0:RepE ⟨κ,[]⟩ w (parEnv 0 vs) (us.toArray++Array.replicate (fn.ntmps - us.toArray.size) undef):=fun m=>by
  rw[parEnv_get,if_pos (Nat.zero_le _),Nat.sub_zero]
  by_cases hm:m<vs.length
  ·have:=hrep m hm
   have e1:(us.toArray++Array.replicate (fn.ntmps - us.toArray.size) undef).getD m undef=us.getD m undef:=by
    rw[Array.getD_eq_getD_getElem?,Array.getElem?_append_left (by simp;omega),List.getElem?_toArray,List.getD_eq_getElem?_getD]
   rw[e1]
   exact this
  ·rw[show vs.getD m .und=.und by rw[List.getD_eq_getElem?_getD,List.getElem?_eq_none (by omega)];rfl]
   exact .und
 obtain⟨e',σ',hres,a',w',todo',hs',γ',g1,g2,g3,g4,g5,g6,g7⟩:=soundM hT hS hpr hM fn.ntmps [] [.code c] { tmps:=us.toArray++Array.replicate (fn.ntmps - us.toArray.size) undef,defers:=[] } w ⟨κ,[]⟩ w.heap.size (.c hC .nil) hsz rfl hE0 hI b cs
 rw[←henter]at hs'
 have hresults:∃ u,(results fn a'.tmps).run P w'=.ok u w'∧RepV γ' w' (.bool z) u:=by
  have hmap:∀ us':List Value,(fn.results.toList.mapM (resSem a'.tmps)).run P w'=.ok us' w'→(results fn a'.tmps).run P w'=.ok (if h:us'.toArray.size=1 then us'.toArray[0] else .tuple us'.toArray) w':=fun us' h=>by
   have e1:results fn a'.tmps=(do let vs ←fn.results.mapM (resSem a'.tmps);pure (if h:vs.size=1 then vs[0] else .tuple vs)):=by
    unfold results
    congr 2
   rw[e1,Array.mapM_eq_mapM_toList]
   simp[h]
  unfold resV at hres
  split at hres
  ·rename_i r hr1
   rw[hr1]at hR
   have hm:[r].mapM (resOne e' σ')=some [.bool z]:=by simp[hres]
   obtain⟨us',k1,k2,k3,k4⟩:=run_res (P:=P) g1 g2 hR hm
   obtain⟨u,rfl⟩:=List.length_eq_one_iff.1 (show us'.length=1 by simpa using k2.symm)
   refine⟨u,by simpa using hmap [u] k1,?_⟩
   simpa using k4 0 (by simp)
  ·rename_i rs hne
   simp only[Option.map_eq_some_iff]at hres
   obtain⟨vs,hm,hv⟩:=hres
   cases hv
 obtain⟨u,hu,hv⟩:=hresults
 obtain⟨κ2,y1,y2,y3,y4,_⟩:=g2.freeze []
 exact⟨.returned u,w',_,⟨u,κ2,rfl,settleV_rep g2 y2 y4 (js:=[]) (v:=.bool z) rfl hv [],g4,fun b hlt=>(y3 b hlt).trans (g5 b hlt),y1.dom⟩,hs',rfl,rfl,g7,rfl,fn,hf,hu⟩
end
/-! walking -/
section
variable {T:Nat→Option AF} {pr:Nat→Option (List V→Option V)} {Q:Env→St→Prop} {e:Env} {σ:St} {k:List It} {kill:List Nat}
def MC(T:Nat→Option AF)(pr:Nat→Option (List V→Option V))(g:V)(kill:List Nat)(x y:AC)(k:List It)(e:Env)(σ:St)(Q:Env→St→Prop):Prop:=
 match g with
 | .bool true=>EvM T pr (.c x::k) (e.del kill) σ Q
 | .bool false=>EvM T pr (.c y::k) (e.del kill) σ Q
 | _=>False
theorem m_cond{c:S}{x y:AC}(h:MC T pr (src e c) kill x y k e σ Q):EvM T pr (.c (.cond c kill x y)::k) e σ Q:=by
 unfold MC at h
 split at h
 ·rename_i hc;exact .cond hc h
 ·rename_i hc;exact .cond hc h
 ·exact h.elim
theorem m_reg{ops:List AI}(h:W T pr [.c (.reg [] ops)] e σ (fun e1 σ1=>EvM T pr k (e1.del kill) σ1 Q)):EvM T pr (.c (.reg kill ops)::k) e σ Q:=by
 obtain⟨e',σ',h,q⟩:=h
 have hd:∀ e:Env,e.del []=e:=fun e=>by
  induction e with
  | nil=>rfl
  | cons p r ih=>obtain⟨m,v⟩:=p;simp only[Env.del,List.elem_nil,Bool.false_eq_true,if_false,ih]
 cases h with
 | cReg h1 h2=>
  rw[hd]at h2
  cases h2
  exact .reg h1 q
theorem m_drw1{deps:List (List Nat)}{ops:List AI}(h:W T pr [.c (.drw [] deps ops)] e σ (fun e1 σ1=>EvM T pr k (e1.del kill) σ1 Q)):EvM T pr (.c (.drw kill deps ops)::k) e σ Q:=by
 obtain⟨e',σ',h,q⟩:=h
 have hd:∀ e:Env,e.del []=e:=fun e=>by
  induction e with
  | nil=>rfl
  | cons p r ih=>obtain⟨m,v⟩:=p;simp only[Env.del,List.elem_nil,Bool.false_eq_true,if_false,ih]
 cases h with
 | cDrw E2 h1 h2 h3=>
  rw[hd]at h3
  cases h3
  exact .drw E2 (fun _=>e') (fun _=>σ') h1 h2 (fun _=>q)
theorem m_walk(h:W T pr k e σ Q):EvM T pr k e σ Q:=by
 obtain⟨e',σ',h,q⟩:=h
 exact .done h q
end
end Go.Proofs.YtlehfgdhebapeaaGreatDoor.KM
