/- Walks: parse.Parse. -/
import Derived.Test.YtlehfgdhebapeaaGreatDoorLu
import Derived.Test.YtlehfgdhebapeaaGreatDoorLn
import Derived.Test.YtlehfgdhebapeaaGreatDoorQs
set_option linter.all false
namespace Go.Proofs.YtlehfgdhebapeaaGreatDoor.KM
open Go
def Yk(s:List UInt8)(v:V):Prop:=match Pa s with
 | some x=>v=.tup [.agg x.row,.int .i64 0,.int .i64 0]
 | none=>∃ e ln:Int,e≠0/\v=.tup [.agg [.nils,.nils],.int .i64 e,.int .i64 ln]
theorem Yb(x:Gp):x.row.all V.rowB=true:=by
 unfold Gp.row
 simp only[Ar,A3,Jk]
 rfl
theorem Wo(x:Gp):x.row=[SL x.dz x.dt (x.decls.map Dp.row),SL x.tz x.tt (x.thrs.map Tp.row)]:=rfl
theorem Uj{a b:V}(h:[a,b].all V.rowB=true):a.cellB=true/\b.cellB=true:=by
 simp only[Ar,A3,Y3,Ad]at h
 exact⟨D9 h.1,D9 h.2⟩
theorem Ag1(s:List UInt8):∃ v,Fn TT PT 10 [.str s] v/\Yk s v:=by
 obtain⟨v1,hsc,hR⟩:=Asp s
 refine Aj3 T10 rfl ?_
 unfold Ab7 at hR
 unfold Yk Pa
 by_cases hbig:4096<s.length
 ·rw[if_pos hbig]at hR ⊢
  obtain⟨e,ln,he,rfl⟩:=hR
  have ne:(e != 0)=true:=by simp[he]
  simp only[go_sem]
  refine Ax hsc (by simp only[go_sem]) ?_
  simp only[go_sem,ne]
  exact⟨.tup [.agg [.nils,.nils],.int .i64 e,.int .i64 ln],⟨_,rfl,Jr (by rfl)⟩,e,ln,he,rfl⟩
 ·rw[if_neg hbig]at hR ⊢
  cases hL:B7 s.length 1 s with
  | none=>
   rw[hL]at hR
   obtain⟨e,ln,he,rfl⟩:=hR
   have ne:(e != 0)=true:=by simp[he]
   simp only[go_sem]
   refine Ax hsc (by simp only[go_sem]) ?_
   simp only[go_sem,ne]
   exact⟨.tup [.agg [.nils,.nils],.int .i64 e,.int .i64 ln],⟨_,rfl,Jr (by rfl)⟩,e,ln,he,rfl⟩
  | some L=>
   rw[hL]at hR
   simp only at hR
   subst hR
   have hA:=Apb (by omega) hL
   have hT:=Q6 _ _ _ _ hL
   have ne:((0:Int) != 0)=false:=by decide
   have hl:L.length<=1000000:=by have:=hA.len;omega
   have h1:=Al4 (s:=[.row [.nils,.nils] 26 0 0,RO true 0 L 0]) (m:=1) (z:=true) (t:=0) hA hT rfl
   obtain⟨v,q,c4,hq2,h3⟩:=h1
   have c4:Bc TT PT 40 [.ptr 1 0 0] [.row [.nils,.nils] 26 0 0,.row [SL true 0 (L.map Tk.row),.int .i64 0] 100 0 0] v [.row [.nils,.nils] 26 0 0,.row [SL true 0 (L.map Tk.row),.int .i64 (q:Int)] 100 0 0]:=c4
   simp only[go_sem]
   refine Ax hsc (by simp only[go_sem]) ?_
   simp only[go_sem,ne]
   unfold PRg at h3
   have hread:∀ x:List V,∃ n:Int,Bc TT PT 41 [.ptr 1 0 0] [.row [.nils,.nils] 26 0 0,.row [SL true 0 (L.map Tk.row),.int .i64 (q:Int)] 100 0 0,.row x 26 0 0] (.int .i64 n) [.row [.nils,.nils] 26 0 0,.row [SL true 0 (L.map Tk.row),.int .i64 (q:Int)] 100 0 0,.row x 26 0 0]:=fun x=>Asu (s:=[.row [.nils,.nils] 26 0 0,RO true 0 L q,.row x 26 0 0]) (m:=1) rfl hl hq2
   split at h3
   ·rename_i x r ho
    obtain⟨rfl,h3⟩:=h3
    have hxs:=Yb x
    have hr:=Wo x
    rw[hr]at c4 hxs
    obtain⟨hx1,hx2⟩:=Uj hxs
    rw[ho]
    refine Ab c4 ?_
    simp only[go_sem]
    by_cases hq:q<L.length
    ·have f1:((q:Int)<(L.length:Int))=True:=eq_true (by omega)
     obtain⟨n,hln⟩:=hread [SL x.dz x.dt (x.decls.map Dp.row),SL x.tz x.tt (x.thrs.map Tp.row)]
     refine A2 (by kernel_rfl) ?_
     simp only[go_sem,Lc,f1,hx1,hx2]
     refine Ab hln ?_
     simp only[go_sem]
     have hne:r≠[]:=fun e=>by
      rw[e]at h3
      have:=congrArg List.length h3
      rw[D5]at this
      simp at this
      omega
     refine⟨.tup [.agg [.nils,.nils],.int .i64 3,.int .i64 n],⟨_,rfl,Jr (by rfl)⟩,?_⟩
     cases r with
     | nil=>exact absurd rfl hne
     | cons a b=>exact⟨3,n,by decide,rfl⟩
    ·have f1:((q:Int)<(L.length:Int))=False:=eq_false (by omega)
     rw[E9 (by omega)]at h3
     subst h3
     refine A2 (by kernel_rfl) ?_
     simp only[go_sem,Lc,f1,hx1,hx2]
     refine⟨.tup [.agg x.row,.int .i64 0,.int .i64 0],?_,rfl⟩
     rw[hr]
     exact⟨_,rfl,Jr (by simp only[go_sem,Nat.reduceEqDiff,reduceIte])⟩
   ·rename_i ho
    obtain⟨d0,d1,hd,rfl⟩:=h3
    obtain⟨hx1,hx2⟩:=Uj hd
    rw[ho]
    obtain⟨n,hln⟩:=hread [d0,d1]
    refine Ab c4 ?_
    simp only[go_sem,hx1,hx2]
    refine A2 (by kernel_rfl) ?_
    simp only[go_sem,Lc]
    refine Ab hln ?_
    simp only[go_sem]
    exact⟨.tup [.agg [.nils,.nils],.int .i64 3,.int .i64 n],⟨_,rfl,Jr (by rfl)⟩,3,n,by decide,rfl⟩
open Go Go.RowKit
inductive EvM (T:Nat->Option AF) (pr:Nat->Option (List V->Option V)):List It->Env->St->(Env->St->Prop)->Prop
 | done {k:List It} {e e':Env} {σ σ':St} {Q:Env->St->Prop}:Ev T pr (.code k e σ e' σ')->Q e' σ'->EvM T pr k e σ Q
 | skip {k:List It} {e:Env} {σ:St} {Q:Env->St->Prop}:EvM T pr k e σ Q->EvM T pr (.c .skip::k) e σ Q
 | reg {kill:List Nat} {ops:List AI} {k:List It} {e e1:Env} {σ σ1:St} {Q:Env->St->Prop}:Ev T pr (.ops ops e σ e1 σ1)->EvM T pr k (e1.del kill) σ1 Q->EvM T pr (.c (.reg kill ops)::k) e σ Q
 | drw {kill:List Nat} {deps:List (List Nat)} {ops:List AI} {k:List It} {e:Env} {σ:St} {Q:Env->St->Prop} (E2 E3:Nat->Env) (S2:Nat->St):(∀ t,Ev T pr (.ops (Ba ops (Gz deps t)) e σ (E2 t) (S2 t)))->(∀ t n,(E2 t).get n=(E3 t).get n)->(∀ t,EvM T pr k ((E3 t).del kill) (S2 t) Q)->EvM T pr (.c (.drw kill deps ops)::k) e σ Q
 | seq {a b:AC} {k:List It} {e:Env} {σ:St} {Q:Env->St->Prop}:EvM T pr (.c a::.c b::k) e σ Q->EvM T pr (.c (.seq a b)::k) e σ Q
 | cond {c:S} {kill:List Nat} {x y:AC} {k:List It} {e:Env} {σ:St} {Q:Env->St->Prop} {z:Bool}:Ac e c=.bool z->EvM T pr (.c (if z then x else y)::k) (e.del kill) σ Q->EvM T pr (.c (.cond c kill x y)::k) e σ Q
 | blk {id:Nat} {c:AC} {k:List It} {e:Env} {σ:St} {Q:Env->St->Prop}:EvM T pr (.c c::.b id::k) e σ Q->EvM T pr (.c (.blk id c)::k) e σ Q
 | bend {id:Nat} {k:List It} {e:Env} {σ:St} {Q:Env->St->Prop}:EvM T pr k e σ Q->EvM T pr (.b id::k) e σ Q
 | loop {keep:List Nat} {c:AC} {k:List It} {e:Env} {σ:St} {Q:Env->St->Prop}:EvM T pr (.l keep c::k) e σ Q->EvM T pr (.c (.loop keep c)::k) e σ Q
 | again {keep:List Nat} {c:AC} {k:List It} {e:Env} {σ:St} {Q:Env->St->Prop}:EvM T pr (.c c::.l keep c::k) (e.keep keep) σ Q->EvM T pr (.l keep c::k) e σ Q
 | exit {id:Nat} {k k':List It} {e:Env} {σ:St} {Q:Env->St->Prop}:exitTo id k=some k'->EvM T pr k' e σ Q->EvM T pr (.c (.exit id)::k) e σ Q
 | env {k:List It} {e e':Env} {σ:St} {Q:Env->St->Prop}:(∀ m,e.get m=e'.get m)->EvM T pr k e' σ Q->EvM T pr k e σ Q
section
variable {P:Program} {G:List (Nat × List V)} {T:Nat->Option AF} {pr:Nat->Option (List V->Option V)}
def Aca(G:List (Nat × List V))(N n:Nat)(D:List Deferred)(γ:Gh)(σ:St)(w:World)(b:Frame)(cs:List Frame)(m:Machine)(P:Program)(Q:Env->St->Prop):Prop:=
 ∃ e' σ',Q e' σ'/\∃ a' w' todo',Steps P m (lone { b.at a' todo' with mode:=.returning } cs w')/\Leaves G N n D γ σ w e' σ' a' w'
theorem Jm{N n:Nat}{D:List Deferred}{γ γ1:Gh}{σ σ1:St}{w w1:World}{b:Frame}{cs:List Frame}{m m1:Machine}{Q:Env->St->Prop}(hs:Steps P m m1)(hx:Ext γ w γ1 w1)(hb:Below N w w1)(hk:∀ b,b<N->γ1.κ b=γ.κ b):Aca G N n D γ1 σ1 w1 b cs m1 P Q->Aca G N n D γ σ w b cs m P Q
 | ⟨e',σ',q,a',w',t',h1,h2⟩=>⟨e',σ',q,a',w',t',Steps.trans hs h1,h2.after hx hb hk⟩
theorem Awb(hT:∀ f F,T f=some F->F.spec=none->A0 P G f F=true)(hS:∀ f F s,T f=some F->F.spec=some s->Nr P G f s)(hpr:∀ f s,pr f=some s->Fd P G f s){k:List It}{e:Env}{σ:St}{Q:Env->St->Prop}(h:EvM T pr k e σ Q):
  ∀ (n:Nat) (D:List Deferred) (todo:List Item) (a:Act) (w:World) (γ:Gh) (N:Nat),MK P G n k todo->a.tmps.size=n->a.defers=D->RepE γ w e a.tmps->Inv G N γ σ w->∀ (b:Frame) (cs:List Frame),Aca G N n D γ σ w b cs (lone (b.at a todo) cs w) P Q:=by
 induction h with
 | done h hq=>
  intro n D todo a w γ N hM ha hd hE hI b cs
  exact⟨_,_,hq,Ul hT hS hpr h n D todo a w γ N hM ha hd hE hI b cs⟩
 | skip _ ih=>
  intro n D todo a w γ N hM ha hd hE hI b cs
  cases hM with
  | c hok hM=>
   obtain rfl:=Afw hok
   exact Jm (.one step_skip) (Ext.refl _ _) (Below.refl _ _) (fun _ _=>rfl) (ih n D _ a w γ N hM ha hd hE hI b cs)
 | @reg kill ais k e e1 σ σ1 Q h1 _ ih2=>
  intro n D todo a w γ N hM ha hd hE hI b cs
  cases hM with
  | @c _ _ _ todo' hok hM=>
   obtain⟨id,ops,rfl,hops⟩:=Ahg hok
   have hw:=Ul hT hS hpr h1 n D ops (List.range ops.size) a w γ N (fun ex a' w'=>ex=.normal/\Leaves G N n D γ σ w e1 σ1 a' w') (by
    have:=Z3 ais ops.toList 0 hops (by simp)
    rw[Yp]
    simpa using this) ha hd hE hI (fun a' w' h=>⟨rfl,h⟩)
   obtain⟨ex,a1,w1,⟨rfl,γ1,q1,q2,q3,q4,q5,q6,q7⟩,harr⟩:=wp_ops _ a w hw b todo' cs
   exact Jm (.head step_region harr) q3 q4 q5 (ih2 n D _ a1 w1 γ1 N hM q6 q7 (q1.del kill) q2 b cs)
 | @drw kill deps ais k e σ Q E2 E3 S2 hE1 hE2 _ ih2=>
  intro n D todo a w γ N hM ha hd hE hI b cs
  cases hM with
  | @c _ _ _ todo' hok hM=>
   obtain⟨id,ops,rfl,hops,hdeps,hmix⟩:=Ahh hok
   obtain⟨d1,d2⟩:=hI.drew
   have hlen:deps.length=ops.size:=by simpa using (Tf hdeps).1
   have hsch:∀ t,Region.schedule (P.follows .mixedOrders) ops t=Gz deps t:=fun t=>by
    unfold Region.schedule
    rw[hmix]
    simpa using Ais hdeps t
   have hstep:=step_region_draw (P:=P) (b:=b) (a:=a) (k:=todo') (cs:=cs) (w:=w) (ops:=ops) (id:=id)
   rw[hsch]at hstep
   generalize w.tape w.drawn (.order b.fn id)=t at hstep
   have hw:=Ul hT hS hpr (hE1 t) n D ops (Gz deps t) a w.drew γ N (fun ex a' w'=>ex=.normal/\Leaves G N n D γ σ w.drew (E2 t) (S2 t) a' w')
    (Aak hops _ (fun i hi=>by rw[<-hlen];exact Aba deps _ _ [] (fun i hi=>by cases hi) i hi)) ha hd (hE.ext d2) d1 (fun a' w' h=>⟨rfl,h⟩)
   obtain⟨ex,a1,w1,⟨rfl,γ1,q1,q2,q3,q4,q5,q6,q7⟩,harr⟩:=wp_ops _ a w.drew hw b todo' cs
   have q1':RepE γ1 w1 (E3 t) a1.tmps:=fun m=>by rw[<-hE2 t m];exact q1 m
   exact Jm (σ1:=σ) (.one hstep) d2 (Below.refl _ _).drew (fun _ _=>rfl) (Jm harr q3 q4 q5 (ih2 t n D _ a1 w1 γ1 N hM q6 q7 (q1'.del kill) q2 b cs))
 | seq _ ih=>
  intro n D todo a w γ N hM ha hd hE hI b cs
  cases hM with
  | c hok hM=>
   obtain⟨c1,c2,rfl,h1,h2⟩:=Ahi hok
   exact Jm (.one step_seq) (Ext.refl _ _) (Below.refl _ _) (fun _ _=>rfl) (ih n D _ a w γ N (.c h1 (.c h2 hM)) ha hd hE hI b cs)
 | @cond s kill x y k e σ Q z hc _ ih=>
  intro n D todo a w γ N hM ha hd hE hI b cs
  cases hM with
  | c hok hM=>
   obtain⟨o,c1,c2,rfl,h1,h2,h3⟩:=Afx hok
   have hr:=Q0 (a:=a) h1 hE hI
   rw[hc]at hr
   have hz:=Ky (An rfl hr)
   exact Jm (.one (step_cond hz)) (Ext.refl _ _) (Below.refl _ _) (fun _ _=>rfl) (ih n D _ a w γ N (.c (c:=if z then c1 else c2) (by cases z<;>assumption) hM) ha hd (hE.del kill) hI b cs)
 | blk _ ih=>
  intro n D todo a w γ N hM ha hd hE hI b cs
  cases hM with
  | c hok hM=>
   obtain⟨c1,rfl,h1⟩:=Ahj hok
   exact Jm (.one step_block) (Ext.refl _ _) (Below.refl _ _) (fun _ _=>rfl) (ih n D _ a w γ N (.c h1 (.b hM)) ha hd hE hI b cs)
 | bend _ ih=>
  intro n D todo a w γ N hM ha hd hE hI b cs
  cases hM with
  | b hM=>exact Jm (.one step_inBlock) (Ext.refl _ _) (Below.refl _ _) (fun _ _=>rfl) (ih n D _ a w γ N hM ha hd hE hI b cs)
 | loop _ ih=>
  intro n D todo a w γ N hM ha hd hE hI b cs
  cases hM with
  | c hok hM=>
   obtain⟨c1,rfl,h1⟩:=Afy hok
   exact ih n D _ a w γ N (.l' h1 hM) ha hd hE hI b cs
 | @again keep c k e σ Q _ ih=>
  intro n D todo a w γ N hM ha hd hE hI b cs
  cases hM with
  | l hok hM=>exact Jm (.one step_inLoop) (Ext.refl _ _) (Below.refl _ _) (fun _ _=>rfl) (ih n D _ a w γ N (.c hok (.l hok hM)) ha hd (hE.keep keep) hI b cs)
  | l' hok hM=>exact Jm (.one step_loop) (Ext.refl _ _) (Below.refl _ _) (fun _ _=>rfl) (ih n D _ a w γ N (.c hok (.l hok hM)) ha hd (hE.keep keep) hI b cs)
 | exit hk _ ih=>
  intro n D todo a w γ N hM ha hd hE hI b cs
  cases hM with
  | c hok hM=>
   obtain rfl:=Afz hok
   obtain⟨t2,h1,h2⟩:=hM.exit hk
   exact Jm (.one (step_exit h1)) (Ext.refl _ _) (Below.refl _ _) (fun _ _=>rfl) (ih n D _ a w γ N h2 ha hd hE hI b cs)
 | env he _ ih=>
  intro n D todo a w γ N hM ha hd hE hI b cs
  exact ih n D todo a w γ N hM ha hd (fun m=>by rw[<-he m];exact hE m) hI b cs
theorem Aj6(hT:∀ f F,T f=some F->F.spec=none->A0 P G f F=true)(hS:∀ f F s,T f=some F->F.spec=some s->Nr P G f s)(hpr:∀ f s,pr f=some s->Fd P G f s){f:Nat}{F:AF}{s:List V->Option V}(hF:T f=some F)(hsp:F.spec=none)
  (h:∀ vs v,s vs=some v->vs.length=F.pars/\∃ z,v=.bool z/\EvM T pr [.c F.body] (Cu 0 vs) [] (fun e' σ'=>By e' σ' F.res=some (.bool z))):Fd P G f s:=by
 obtain⟨fn,c,hf,hb,hC,hR,hpars,hn⟩:=O1 (hT f F hF hsp)
 refine⟨⟨fn,c,hf,hb,hn⟩,fun κ w vs us v hg hs hd hl ha hv=>?_⟩
 obtain⟨hlp,z,rfl,hM⟩:=h vs v hv
 have hI:Inv G w.heap.size ⟨κ,[]⟩ [] w:=
  { base:=Af _,len:=rfl,nd:=Mt,low:=fun i p h=>by simp at h,obj:=fun i ob p h=>by simp at h,dom:=hd,glob:=hg,
    gsz:=fun g r hm=>And.intro (by
     have:=hs g r hm
     unfold C9 at this
     split at this
     ·rename_i hh;exact(Array.getElem?_eq_some_iff.1 hh).1
     ·cases this) (hs g r hm) }
 have hrep:∀ j,j<vs.length->RepV ⟨κ,[]⟩ w (vs.getD j .und) (us.getD j undef):=fun j hj=>.one (ha j hj)
 intro cs
 let b:Frame:={ (default:Frame) with fn:=f,kind:=.normal }
 have hsz:(us.toArray++Array.replicate (fn.ntmps - us.toArray.size) undef).size=fn.ntmps:=by simp;omega
 have henter:Frame.enter P f us.toArray .normal=b.at { tmps:=us.toArray++Array.replicate (fn.ntmps - us.toArray.size) undef,defers:=[] } [.code c]:=by
  simp[Frame.enter,Frame.at,hf,hb,b]
 have hE0:RepE ⟨κ,[]⟩ w (Cu 0 vs) (us.toArray++Array.replicate (fn.ntmps - us.toArray.size) undef):=fun m=>by
  rw[Za,if_pos (Bj _),Nat.sub_zero]
  by_cases hm:m<vs.length
  ·have:=hrep m hm
   have e1:(us.toArray++Array.replicate (fn.ntmps - us.toArray.size) undef).getD m undef=us.getD m undef:=by
    rw[Array.getD_eq_getD_getElem?,Array.getElem?_append_left (by simp;omega),Mq,Am]
   rw[e1]
   exact this
  ·rw[show vs.getD m .und=.und by rw[Am,Mr (by omega)];rfl]
   exact .und
 obtain⟨e',σ',hres,a',w',todo',hs',γ',g1,g2,g3,g4,g5,g6,g7⟩:=Awb hT hS hpr hM fn.ntmps [] [.code c] { tmps:=us.toArray++Array.replicate (fn.ntmps - us.toArray.size) undef,defers:=[] } w ⟨κ,[]⟩ w.heap.size (.c hC .nil) hsz rfl hE0 hI b cs
 rw[<-henter]at hs'
 have hresults:∃ u,(results fn a'.tmps).run P w'=.ok u w'/\RepV γ' w' (.bool z) u:=by
  have hmap:∀ us':List Value,(fn.results.toList.mapM (O9 a'.tmps)).run P w'=.ok us' w'->(results fn a'.tmps).run P w'=.ok (if h:us'.toArray.size=1 then us'.toArray[0] else .tuple us'.toArray) w':=fun us' h=>by
   have e1:results fn a'.tmps=(do let vs <-fn.results.mapM (O9 a'.tmps);pure (if h:vs.size=1 then vs[0] else .tuple vs)):=by
    unfold results
    congr 2
   rw[e1,Array.mapM_eq_mapM_toList]
   simp[h]
  unfold By at hres
  split at hres
  ·rename_i r hr1
   rw[hr1]at hR
   have hm:[r].mapM (E5 e' σ')=some [.bool z]:=by simp[hres]
   obtain⟨us',k1,k2,k3,k4⟩:=Wq (P:=P) g1 g2 hR hm
   obtain⟨u,rfl⟩:=Yn.1 (show us'.length=1 by simpa using k2.symm)
   refine⟨u,by simpa using hmap [u] k1,?_⟩
   simpa using k4 0 (by simp)
  ·rename_i rs hne
   simp only[A8]at hres
   obtain⟨vs,hm,hv⟩:=hres
   cases hv
 obtain⟨u,hu,hv⟩:=hresults
 obtain⟨κ2,y1,y2,y3,y4,_⟩:=g2.freeze []
 exact⟨.returned u,w',_,⟨u,κ2,rfl,Sx g2 y2 y4 (js:=[]) (v:=.bool z) rfl hv [],g4,fun b hlt=>(y3 b hlt).trans (g5 b hlt),y1.dom⟩,hs',rfl,rfl,g7,rfl,fn,hf,hu⟩
end
/-! walking -/
section
variable {T:Nat->Option AF} {pr:Nat->Option (List V->Option V)} {Q:Env->St->Prop} {e:Env} {σ:St} {k:List It} {kill:List Nat}
def MC(T:Nat->Option AF)(pr:Nat->Option (List V->Option V))(g:V)(kill:List Nat)(x y:AC)(k:List It)(e:Env)(σ:St)(Q:Env->St->Prop):Prop:=
 match g with
 | .bool true=>EvM T pr (.c x::k) (e.del kill) σ Q
 | .bool false=>EvM T pr (.c y::k) (e.del kill) σ Q
 | _=>False
theorem Dj{c:S}{x y:AC}(h:MC T pr (Ac e c) kill x y k e σ Q):EvM T pr (.c (.cond c kill x y)::k) e σ Q:=by
 unfold MC at h
 split at h
 ·rename_i hc;exact .cond hc h
 ·rename_i hc;exact .cond hc h
 ·exact h.elim
theorem F2{ops:List AI}(h:W T pr [.c (.reg [] ops)] e σ (fun e1 σ1=>EvM T pr k (e1.del kill) σ1 Q)):EvM T pr (.c (.reg kill ops)::k) e σ Q:=by
 obtain⟨e',σ',h,q⟩:=h
 have hd:∀ e:Env,e.del []=e:=fun e=>by
  induction e with
  | nil=>rfl
  | cons p r ih=>obtain⟨m,v⟩:=p;simp only[Env.del,Vk,Dr,if_false,ih]
 cases h with
 | cReg h1 h2=>
  rw[hd]at h2
  cases h2
  exact .reg h1 q
theorem Awc{deps:List (List Nat)}{ops:List AI}(h:W T pr [.c (.drw [] deps ops)] e σ (fun e1 σ1=>EvM T pr k (e1.del kill) σ1 Q)):EvM T pr (.c (.drw kill deps ops)::k) e σ Q:=by
 obtain⟨e',σ',h,q⟩:=h
 have hd:∀ e:Env,e.del []=e:=fun e=>by
  induction e with
  | nil=>rfl
  | cons p r ih=>obtain⟨m,v⟩:=p;simp only[Env.del,Vk,Dr,if_false,ih]
 cases h with
 | cDrw E2 h1 h2 h3=>
  rw[hd]at h3
  cases h3
  exact .drw E2 (fun _=>e') (fun _=>σ') h1 h2 (fun _=>q)
theorem F0(h:W T pr k e σ Q):EvM T pr k e σ Q:=by
 obtain⟨e',σ',h,q⟩:=h
 exact .done h q
end
end Go.Proofs.YtlehfgdhebapeaaGreatDoor.KM
