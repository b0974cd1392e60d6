/- More functions known by what they return; loops whatever is drawn. -/
import Derived.Test.YtlehfgdhebapeaaGreatDoorQm
import Derived.Test.YtlehfgdhebapeaaGreatDoorLj
import Derived.Test.YtlehfgdhebapeaaGreatDoorGg
set_option linter.all false
namespace Go.Proofs.YtlehfgdhebapeaaGreatDoor.KM
open Go
def SameEnv(e e':Env):Prop:=∀ m,e.get m=e'.get m
section
variable {T:Nat→Option AF} {pr pr':Nat→Option (List V→Option V)}
theorem Ev_mono(hp:∀ f s,pr f=some s→pr' f=some s){j:J}(h:Ev T pr j):Ev T pr' j:=by
 induction h with
 | opsNil=>exact .opsNil
 | opsSkip h1 _ ih=>exact .opsSkip h1 ih
 | opsVal h1 h2 _ ih=>exact .opsVal h1 h2 ih
 | opsPrim h1 h2 h3 h4 h5 _ ih=>exact .opsPrim h1 h2 (hp _ _ h3) h4 h5 ih
 | opsPure h1 h2 h3 h4 h5 h6 _ h8 _ ih1 ih2=>exact .opsPure h1 h2 h3 h4 h5 h6 ih1 h8 ih2
 | opsOwn h1 h2 h3 h4 h5 h6 _ _ ih1 ih2=>exact .opsOwn h1 h2 h3 h4 h5 h6 ih1 ih2
 | opsAny h1 h2 h3 h4 _ _ ih1 ih2=>exact .opsAny h1 h2 h3 h4 ih1 ih2
 | opsThr h1 h2 h3 h4 h5 _ _ ih1 ih2=>exact .opsThr h1 h2 h3 h4 h5 ih1 ih2
 | opsSpec h1 h2 h3 h4 h5 h6 _ ih=>exact .opsSpec h1 h2 h3 h4 h5 h6 ih
 | fn h1 h2 h3 _ h5 h6 h7 h8 ih=>exact .fn h1 h2 h3 ih h5 h6 h7 h8
 | fnL h1 h2 h3 _ h5 h6 ih=>exact .fnL h1 h2 h3 ih h5 h6
 | fnS h1 h2 h3 _ h5 h6 h7 h8 h9 ih=>exact .fnS h1 h2 h3 ih h5 h6 h7 h8 h9
 | fnZ h1 h2 h3 _ h5 h6 h7 h8 ih=>exact .fnZ h1 h2 h3 ih h5 h6 h7 h8
 | cNil=>exact .cNil
 | cSkip _ ih=>exact .cSkip ih
 | cReg _ _ ih1 ih2=>exact .cReg ih1 ih2
 | cDrw E2 _ h2 _ ih1 ih2=>exact .cDrw E2 ih1 h2 ih2
 | cSeq _ ih=>exact .cSeq ih
 | cCond h1 _ ih=>exact .cCond h1 ih
 | cBlk _ ih=>exact .cBlk ih
 | cEnd _ ih=>exact .cEnd ih
 | cLoop _ ih=>exact .cLoop ih
 | cAgain _ ih=>exact .cAgain ih
 | cExit h1 _ ih=>exact .cExit h1 ih
 | cRet=>exact .cRet
theorem fn_mono(hp:∀ f s,pr f=some s→pr' f=some s){f:Nat}{vs:List V}{v:V}(h:Fn T pr f vs v):Fn T pr' f vs v:=by
 obtain⟨F,h1,h2,h3,v0,σ0,h4,h5⟩:=h
 exact⟨F,h1,h2,h3,v0,σ0,Ev_mono hp h4,h5⟩
theorem loop_m{keep:List Nat}{c:AC}{k:List It}{Q:Env→St→Prop}{α:Type}(μ:α→Nat)(E:α→Env)(Z:α→St)(I:α→Prop)
  (h:∀ a,I a→(∀ b,μ b<μ a→I b→∀ e,e.keep keep=E b→EvM T pr (.l keep c::k) e (Z b) Q)→EvM T pr (.c c::.l keep c::k) (E a) (Z a) Q):∀ a,I a→∀ e,e.keep keep=E a→EvM T pr (.l keep c::k) e (Z a) Q:=by
 suffices ∀ n a,μ a=n→I a→∀ e,e.keep keep=E a→EvM T pr (.l keep c::k) e (Z a) Q from fun a=>this _ a rfl
 intro n
 induction n using Nat.strongRecOn with
 | _ n ih=>exact fun a hm hI e he=>.again (by rw[he];exact h a hI fun b hb hI e he=>ih (μ b) (hm ▸ hb) b rfl hI e he)
theorem m_drw2p{deps:List (List Nat)}{ops:List AI}{kill:List Nat}{k:List It}{e:Env}{σ:St}{Q:Env→St→Prop}(a b:Nat)(P1 P2:List Nat)(d1 d2:List (List Nat))(PP:Env→St→Prop)
  (hp:((deps.length==ops.length)&&((List.range ops.length).all fun j=>(deps.getD j []).all fun d=>decide (d<j))&&(a==b)==false&&permB deps d1 [(a,b)] ops.length P1&&permB deps d2 [(b,a)] ops.length P2&&statP d1 (pickAI ops P1)&&statP d2 (pickAI ops P2)&&(pickAI ops P1).length==ops.length&&(pickAI ops P2).length==ops.length)=true)
  (h1:wg T pr d1 (pickAI ops P1).length [] [] (fun e σ=>PP (e.del kill) σ) 0 (pickAI ops P1) e σ [] [])
  (h2:wg T pr d2 (pickAI ops P2).length [] [] (fun e σ=>PP (e.del kill) σ) 0 (pickAI ops P2) e σ [] [])
  (k0:∀ e σ,PP e σ→EvM T pr k e σ Q):EvM T pr (.c (.drw kill deps ops)::k) e σ Q:=by
 simp only[Bool.and_eq_true,beq_iff_eq]at hp
 obtain⟨⟨⟨⟨⟨⟨⟨⟨hs1,hs2⟩,hab⟩,p1⟩,p2⟩,s1⟩,s2⟩,l1⟩,l2⟩:=hp
 have fin:∀ {e1:Env} {σ1:St} {P:Env→St→Prop},W T pr [] (e1.del []) σ1 P→P e1 σ1:=fun {e1 σ1 P} h=>by
  have hd:∀ e:Env,e.del []=e:=fun e=>by
   induction e with
   | nil=>rfl
   | cons p r ih=>obtain⟨m,v⟩:=p;simp only[Env.del,List.elem_nil,Bool.false_eq_true,if_false,ih]
  rw[hd,w_nil]at h
  exact h
 obtain⟨e1,σ1,t1,g1⟩:=wg_ok _ _ _ _ _ _ h1
 have k1:=k0 _ _ (fin (P:=fun e σ=>PP (e.del kill) σ) g1)
 obtain⟨e2,σ2,t2,g3⟩:=wg_ok _ _ _ _ _ _ h2
 have k2:=k0 _ _ (fin (P:=fun e σ=>PP (e.del kill) σ) g3)
 have D1:=dr_leaf P1 d1 _ rfl l1 p1 s1 t1 fun _=>rfl
 have D2:=dr_leaf P2 d2 _ rfl l2 p2 s2 t2 fun _=>rfl
 simp only[List.all_eq_true,List.mem_range,decide_eq_true_eq]at hs2
 have key:∀ t,∃ (E' E3:Env) (S':St),Ev T pr (.ops (pickAI ops (lin deps t)) e σ E' S')∧(∀ m,E'.get m=E3.get m)∧EvM T pr k (E3.del kill) S' Q:=fun t=>by
  have hL:LXt deps ops.length [] (lin deps t):=by
   unfold lin
   rw[linGo_eq]
   exact lin_lx hs1 (fun j hj d hd=>hs2 j hj d hd) deps.length t [] (by simp[hs1]) List.nodup_nil (fun i hi=>by cases hi)
  rcases bef_or (L:=lin deps t) (a:=a) (b:=b) (by simpa using hab) with hB | hB
  ·obtain⟨E',h,hg⟩:=D1 _ hL (fun p hp=>by simp at hp;subst hp;exact hB)
   exact⟨E',_,_,h,hg,k1⟩
  ·obtain⟨E',h,hg⟩:=D2 _ hL (fun p hp=>by simp at hp;subst hp;exact hB)
   exact⟨E',_,_,h,hg,k2⟩
 exact .drw (fun t=>(key t).choose) (fun t=>(key t).choose_spec.choose) (fun t=>(key t).choose_spec.choose_spec.choose) (fun t=>(key t).choose_spec.choose_spec.choose_spec.1) (fun t=>(key t).choose_spec.choose_spec.choose_spec.2.1) (fun t=>(key t).choose_spec.choose_spec.choose_spec.2.2)
end
end Go.Proofs.YtlehfgdhebapeaaGreatDoor.KM
/- Plain: whether trees are the same depends on their rows alone; what SameStmts and Same answer. -/
namespace Go.Proofs.YtlehfgdhebapeaaGreatDoor.KM
open Go
theorem sl_inj{z z':Bool}{t t':Nat}{xs ys:List (List V)}(h:SL z t xs=SL z' t' ys):xs=ys:=by
 unfold SL at h
 split at h
 ·rename_i h1
  split at h
  ·rename_i h2
   rw[h1.2,h2.2]
  ·cases h
 ·split at h
  ·cases h
  ·injection h
mutual
theorem sameX_inv:∀ (x x' y y':Xp),x.row=x'.row→y.row=y'.row→sameX x y=sameX x' y'
 | ⟨op,n,nm,z,t,l⟩,⟨op',n',nm',z',t',l'⟩,⟨o,m,s,a,b,k⟩,⟨o',m',s',a',b',k'⟩,h1,h2=>by
  rw[xrow_def,xrow_def]at h1 h2
  simp only[List.cons.injEq,V.int.injEq,V.str.injEq,true_and,and_true]at h1 h2
  obtain⟨rfl,rfl,rfl,h1⟩:=h1
  obtain⟨rfl,rfl,rfl,h2⟩:=h2
  rw[sameX,sameX,sameXs_inv l l' k k' (sl_inj h1) (sl_inj h2)]
theorem sameXs_inv:∀ (l l' k k':List Xp),l.map Xp.row=l'.map Xp.row→k.map Xp.row=k'.map Xp.row→sameXs l k=sameXs l' k'
 | [],[],k,k',_,h2=>by
  cases k with
  | nil=>cases k' with
   | nil=>rfl
   | cons a b=>simp at h2
  | cons a b=>cases k' with
   | nil=>simp at h2
   | cons a b=>rfl
 | [],_::_,_,_,h1,_=>by simp at h1
 | _::_,[],_,_,h1,_=>by simp at h1
 | x::l,x'::l',k,k',h1,h2=>by
  simp only[List.map_cons,List.cons.injEq]at h1
  cases k with
  | nil=>cases k' with
   | nil=>rfl
   | cons a b=>simp at h2
  | cons y k=>cases k' with
   | nil=>simp at h2
   | cons y' k'=>
    simp only[List.map_cons,List.cons.injEq]at h2
    rw[sameXs,sameXs,sameX_inv x x' y y' h1.1 h2.1,sameXs_inv l l' k k' h1.2 h2.2]
end
mutual
theorem sameS_inv:∀ (x x' y y':Sp),x.row=x'.row→y.row=y'.row→sameS x y=sameS x' y'
 | ⟨op,ln,nm,ar,iz,it,ix,ex,bz,bt,bo,ez,et,el⟩,⟨op',ln',nm',ar',iz',it',ix',ex',bz',bt',bo',ez',et',el'⟩,⟨o,m,s,a,jz,jt,jx,ey,cz,ct,co,fz,ft,fl⟩,⟨o',m',s',a',jz',jt',jx',ey',cz',ct',co',fz',ft',fl'⟩,h1,h2=>by
  rw[srow_def,srow_def]at h1 h2
  simp only[List.cons_append,List.nil_append,List.cons.injEq,V.int.injEq,V.str.injEq,true_and,and_true]at h1 h2
  obtain⟨rfl,-,rfl,rfl,h1,h3⟩:=h1
  obtain⟨rfl,-,rfl,rfl,h2,h4⟩:=h2
  have e1:=List.append_inj h3 (by rw[xrow_def,xrow_def];rfl)
  have e2:=List.append_inj h4 (by rw[xrow_def,xrow_def];rfl)
  simp only[List.cons.injEq,and_true]at e1 e2
  rw[sameS,sameS,sameX_inv ex ex' ey ey' e1.1 e2.1,sameXs_inv ix ix' jx jx' (sl_inj h1) (sl_inj h2),sameSs_inv bo bo' co co' (sl_inj e1.2.1) (sl_inj e2.2.1),sameSs_inv el el' fl fl' (sl_inj e1.2.2) (sl_inj e2.2.2)]
theorem sameSs_inv:∀ (l l' k k':List Sp),l.map Sp.row=l'.map Sp.row→k.map Sp.row=k'.map Sp.row→sameSs l k=sameSs l' k'
 | [],[],k,k',_,h2=>by
  cases k with
  | nil=>cases k' with
   | nil=>rfl
   | cons a b=>simp at h2
  | cons a b=>cases k' with
   | nil=>simp at h2
   | cons a b=>rfl
 | [],_::_,_,_,h1,_=>by simp at h1
 | _::_,[],_,_,h1,_=>by simp at h1
 | x::l,x'::l',k,k',h1,h2=>by
  simp only[List.map_cons,List.cons.injEq]at h1
  cases k with
  | nil=>cases k' with
   | nil=>rfl
   | cons a b=>simp at h2
  | cons y k=>cases k' with
   | nil=>simp at h2
   | cons y' k'=>
    simp only[List.map_cons,List.cons.injEq]at h2
    rw[sameSs,sameSs,sameS_inv x x' y y' h1.1 h2.1,sameSs_inv l l' k k' h1.2 h2.2]
end
def RSS(n:Nat)(vs:List V)(b:Bool):Prop:=∃ (z z':Bool) (t t':Nat) (l l':List Sp),(∀ s∈l,ShS s)∧Sp.szs l<n∧Sp.szs l≤1000000∧vs=[SL z t (l.map Sp.row),SL z' t' (l'.map Sp.row),.bool false]∧b=sameSs l l'
theorem rss_one{n m:Nat}{vs:List V}{b b':Bool}(h:RSS n vs b)(h':RSS m vs b'):b=b':=by
 obtain⟨z,z',t,t',l,l',-,-,-,rfl,rfl⟩:=h
 obtain⟨y,y',u,u',k,k',-,-,-,h,rfl⟩:=h'
 simp only[List.cons.injEq,and_true]at h
 exact sameSs_inv l k l' k' (sl_inj h.1) (sl_inj h.2)
open Classical in
noncomputable def sSS (n:Nat) (vs:List V):Option V:=if h:∃ b,RSS n vs b then some (.bool h.choose) else none
theorem sss_of{n:Nat}{vs:List V}{b:Bool}(h:RSS n vs b):sSS n vs=some (.bool b):=by
 unfold sSS
 rw[dif_pos ⟨b,h⟩,rss_one (Exists.choose_spec (⟨b,h⟩:∃ b,RSS n vs b)) h]
theorem sss_inv{n:Nat}{vs:List V}{v:V}(h:sSS n vs=some v):∃ b,RSS n vs b∧v=.bool b:=by
 unfold sSS at h
 split at h
 ·rename_i hb
  exact⟨_,hb.choose_spec,by injection h with h;exact h.symm⟩
 ·cases h
open Classical in
noncomputable def sSA (vs:List V):Option V:=if h:∃ n b,RSS n vs b then some (.bool h.choose_spec.choose) else none
theorem ssa_of{n:Nat}{vs:List V}{b:Bool}(h:RSS n vs b):sSA vs=some (.bool b):=by
 unfold sSA
 rw[dif_pos ⟨n,b,h⟩,rss_one (Exists.choose_spec (Exists.choose_spec (⟨n,b,h⟩:∃ n b,RSS n vs b))) h]
theorem ssa_inv{vs:List V}{v:V}(h:sSA vs=some v):∃ n b,RSS n vs b∧v=.bool b:=by
 unfold sSA at h
 split at h
 ·rename_i hb
  exact⟨_,_,hb.choose_spec.choose_spec,by injection h with h;exact h.symm⟩
 ·cases h
def RSG(vs:List V)(b:Bool):Prop:=∃ p q:Gp,ShG p∧(p.decls.length≤1000000∧p.thrs.length≤1000000∧∀ t∈p.thrs,Sp.szs t.body≤1000000∧t.locals.length≤1000000)∧vs=[.agg p.row,.agg q.row,.bool false]∧b=sameG p q
theorem drow_inj{d d':Dp}(h:d.row=d'.row):d=d':=by
 obtain⟨a,b,c,e,f,g⟩:=d
 obtain⟨a',b',c',e',f',g'⟩:=d'
 simp only[Dp.row,List.cons.injEq,V.int.injEq,V.str.injEq,true_and,and_true]at h
 obtain⟨rfl,rfl,rfl,rfl,rfl,rfl⟩:=h
 rfl
theorem drows_inj:∀ {l l':List Dp},l.map Dp.row=l'.map Dp.row→l=l'
 | [],[],_=>rfl
 | [],_::_,h=>by simp at h
 | _::_,[],h=>by simp at h
 | x::l,x'::l',h=>by
  simp only[List.map_cons,List.cons.injEq]at h
  rw[drow_inj h.1,drows_inj h.2]
theorem lrow_inj:∀ {l l':List (List UInt8)},(l.map fun s=>[V.str s])=(l'.map fun s=>[V.str s])→l=l'
 | [],[],_=>rfl
 | [],_::_,h=>by simp at h
 | _::_,[],h=>by simp at h
 | x::l,x'::l',h=>by
  simp only[List.map_cons,List.cons.injEq,V.str.injEq,and_true]at h
  rw[h.1,lrow_inj h.2]
theorem sameT_inv(x x' y y':Tp)(h1:x.row=x'.row)(h2:y.row=y'.row):sameT x y=sameT x' y':=by
 simp only[Tp.row,List.cons.injEq,V.int.injEq,V.str.injEq,true_and,and_true]at h1 h2
 unfold sameT
 rw[h1.1,h2.1,lrow_inj (sl_inj h1.2.2.1),lrow_inj (sl_inj h2.2.2.1),sameSs_inv _ _ _ _ (sl_inj h1.2.2.2) (sl_inj h2.2.2.2)]
theorem sameTs_inv:∀ {l l' k k':List Tp},l.map Tp.row=l'.map Tp.row→k.map Tp.row=k'.map Tp.row→((l.zip k).all fun p=>sameT p.1 p.2)=((l'.zip k').all fun p=>sameT p.1 p.2)
 | [],[],_,_,_,_=>by simp
 | [],_::_,_,_,h,_=>by simp at h
 | _::_,[],_,_,h,_=>by simp at h
 | _::_,_::_,[],[],_,_=>by simp
 | _::_,_::_,[],_::_,_,h=>by simp at h
 | _::_,_::_,_::_,[],_,h=>by simp at h
 | x::l,x'::l',y::k,y'::k',h1,h2=>by
  simp only[List.map_cons,List.cons.injEq]at h1 h2
  simp only[List.zip_cons_cons,List.all_cons,sameT_inv x x' y y' h1.1 h2.1,sameTs_inv h1.2 h2.2]
theorem sameG_inv{p p' q q':Gp}(h1:p.row=p'.row)(h2:q.row=q'.row):sameG p q=sameG p' q':=by
 simp only[Gp.row,List.cons.injEq,and_true]at h1 h2
 have e1:=congrArg List.length (sl_inj h1.2)
 have e2:=congrArg List.length (sl_inj h2.2)
 simp only[List.length_map]at e1 e2
 unfold sameG
 rw[drows_inj (sl_inj h1.1),drows_inj (sl_inj h2.1),e1,e2,sameTs_inv (sl_inj h1.2) (sl_inj h2.2)]
theorem rsg_one{vs:List V}{b b':Bool}(h:RSG vs b)(h':RSG vs b'):b=b':=by
 obtain⟨p,q,-,-,rfl,rfl⟩:=h
 obtain⟨p',q',-,-,h,rfl⟩:=h'
 simp only[List.cons.injEq,V.agg.injEq,and_true]at h
 exact sameG_inv h.1 h.2
open Classical in
noncomputable def sSG (vs:List V):Option V:=if h:∃ b,RSG vs b then some (.bool h.choose) else none
theorem ssg_of{vs:List V}{b:Bool}(h:RSG vs b):sSG vs=some (.bool b):=by
 unfold sSG
 rw[dif_pos ⟨b,h⟩,rsg_one (Exists.choose_spec (⟨b,h⟩:∃ b,RSG vs b)) h]
theorem ssg_inv{vs:List V}{v:V}(h:sSG vs=some v):∃ b,RSG vs b∧v=.bool b:=by
 unfold sSG at h
 split at h
 ·rename_i hb
  exact⟨_,hb.choose_spec,by injection h with h;exact h.symm⟩
 ·cases h
end Go.Proofs.YtlehfgdhebapeaaGreatDoor.KM
