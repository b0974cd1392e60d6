/- The law VersionStays returns true of every pair of versions, every list of items and every number: rebased to the same program a baseline keeps the entries whose sites exist, is valid, and is not changed by rebasing it again. The proof. -/
import Derived.Test.YtphikjgngompaabGreatDoorVk
set_option linter.all false
namespace Go.Proofs.YtphikjgngompaabGreatDoor
open Go.ChangeShapes Go.WideShapes Go.ChangeAt Go.RowKit KM
namespace VersionStays
set_option maxRecDepth 100000 in
theorem Q1(H:Type)(enc:TypeId × Value -> H)(W:World)(base:Nat)(args:Array Value)(ds gs:List (DataW H))(bf:List MemPlace)
  (hq:∀ (j:Nat) t v,Tryz.f3.params[j]?=some t -> args[j]?=some v -> Value.okWide Tryz.prog W .any base t v)
  (hW:DataW.Whole enc Tryz.prog Tryz.f3.params.toList Rows.versionStaysSpec.vars false W args.toList ds gs bf) (hL:laidMetH Tryz.prog Rows.versionStaysRow.laid W) (hS:W.ShapedOpen Tryz.prog) :
  Calls Tryz.prog 3 args W fun e W'=>∃ v,e=.returned v /\ Rows.versionStaysSpec.post enc Tryz.prog Tryz.f3 false true false false W args v W':=by
 have hW':=hW
 obtain⟨p,q,hA0,hV,rfl,hfz,hnd⟩:=hW
 have hA:DataW.TrodAll enc Tryz.prog W 0 (fun _=>true) true Tryz.f3.params.toList args.toList ds p:=hA0
 rw[Tryz.params3]at hA hq
 obtain⟨v0,vs0,d0,ds0,p0,q0,hr,rfl,rfl,h0,r0⟩:=trodAll_cons hA
 obtain⟨v1,vs1,d1,ds1,p1,q1,rfl,rfl,rfl,h1,r1⟩:=trodAll_cons r0
 obtain⟨v2,vs2,d2,ds2,p2,q2,rfl,rfl,rfl,h2,r2⟩:=trodAll_cons r1
 obtain⟨rfl,rfl,rfl⟩:=trodAll_nil r2
 obtain rfl:args=#[v0,v1,v2]:=by cases args;simp_all
 obtain⟨rfl,rfl⟩:=trodVars_none hV
 obtain⟨f0,h0⟩:=h0
 obtain⟨pc0,R0⟩:=Xk enc Tryz.prog W _ _ [24,22,5,4] (by kernel_rfl) f0 24 _ d0 _ (by decide) h0
 obtain⟨cs0,rfl,_⟩:=okWide_struct Tryz.underlying24 (hq 0 _ v0 rfl rfl)
 obtain⟨x0,rfl,hx0⟩:=Bev R0.typ
 have e0:=Bdq R0
 obtain⟨f1,h1⟩:=h1
 obtain⟨pc1,R1⟩:=Xk enc Tryz.prog W _ _ [25,109,107,5] (by kernel_rfl) f1 25 _ d1 _ (by decide) h1
 obtain⟨a1,len1,cap1,rfl⟩:=okWide_slice Tryz.underlying25 (hq 1 _ v1 rfl rfl)
 obtain⟨z1,t1,x1,rfl,hx1⟩:=A90 R1.typ
 obtain⟨y1,hy1,e1⟩:=Atb R1 rfl
 cases hy1
 obtain⟨f2,h2⟩:=h2
 obtain⟨pc2,R2⟩:=Xk enc Tryz.prog W _ _ [5] (by kernel_rfl) f2 5 _ d2 _ (by decide) h2
 obtain⟨n2,rfl⟩:=okWide_int Tryz.underlying5 (hq 2 _ v2 rfl rfl)
 obtain⟨x2,hx2,rfl⟩:=R5 Tryz.underlying5 R2.typ
 obtain⟨y2,hy2,e2⟩:=Atb R2 rfl
 cases hy2
 obtain⟨m,hT⟩:=Beu (show laidMet Tryz.prog Rows.versionStaysRow.laid W from hL) hS (by simp[Rows.versionStaysRow]) (by simp[Rows.versionStaysRow]) (by simp[Rows.versionStaysRow]) (by simp[Rows.versionStaysRow]) (by simp[Rows.versionStaysRow])
 refine(A5l (P:=Tryz.prog) (G:=GT m) (w:=W) hTT hST hPT (vs:=[.agg x0.row,SL z1 t1 (x1.map KM.Item.row),.int .u8 x2]) (us:=[_,_,_]) (A2y x0.z0 x0.z1 x0.z2 x0.t0 x0.t1 x0.t2 x0.a x0.b x0.c x0.un z1 t1 x1 x2 hx0.1 hx0.2.1 hx0.2.2 hx2 hx1.1 hx1.2) hT rfl ?_).mono ?_
 ·intro j hj
  match j,hj with
  | 0,_=>exact e0
  | 1,_=>exact e1
  | 2,_=>exact e2
 ·rintro e W' ⟨rfl,hbl⟩
  exact⟨_,rfl,A9v hW' (by kernel_rfl) (by kernel_rfl) rfl rfl Tryz.underlying4 rfl rfl rfl hbl⟩
def Q5:Array Value:=#[.agg #[.slice none 0 0,.slice none 0 0,.slice none 0 0,.bool false],.slice none 0 0,.int .u8 0]
theorem Q3(os:Os):laidMet Tryz.prog Rows.versionStaysRow.laid ((laidWorld os).forCall (fun _ _=>0) ⟨#[],Q5,[]⟩).memory:=
 laidMet_of_run' 8 (by kernel_rfl) (by kernel_rfl)
theorem Q6(os:Os){H:Type}(enc:TypeId × Value -> H):∃ pl,DataW.whole enc Tryz.prog ((laidWorld os).forCall (fun _ _=>0) ⟨#[],Q5,[]⟩).memory Tryz.f3.params.toList Rows.versionStaysSpec.vars false Q5.toList 8=some ([.agg [.nil,.nil,.nil,.lit (.bool false)],.nil,.lit (.int .u8 0)],[],pl):=
 ⟨[],by kernel_rfl⟩
set_option maxRecDepth 100000 in
theorem Q2(os:Os)(st:os.Started)(H:Type)(enc:TypeId × Value -> H)(F:Stop.Interp):
  ReturnsInHanded {} Tryz.checked os 3 .any ((OpenSpec.ofChange Rows.versionStaysSpec).preRow enc Tryz.prog Tryz.f3 Rows.versionStaysRow.domain false Rows.versionStaysRow.laid) (((OpenSpec.ofChange Rows.versionStaysSpec).at F).post enc Tryz.prog Tryz.f3 false true false false):=by
 obtain⟨pl,hx⟩:=Q6 os enc
 refine returnsInHanded_of_row (C:=Tryz.checked) (s:=OpenSpec.ofChange Rows.versionStaysSpec) A2v st (by kernel_rfl) Tryz.func3
  (witness_row_at (enc:=enc) (C:=Tryz.checked) false (laidWorld os) Q5 rfl (by kernel_rfl) (by kernel_rfl) (by kernel_rfl)
   (OpenSpec.preRow_of_cond 8 hx (by kernel_rfl) (fun k hk=>by cases hk) (by kernel_rfl) (Q3 os))) ?_
 intro W base args ds gs bf hq hW _ _ _ hL hS _
 exact Q1 H enc W base args ds gs bf hq hW hL hS
set_option maxRecDepth 100000 in
set_option maxHeartbeats 4000000 in
theorem Q4:joinedFacts Tryz.prog 3 Tryz.f3 (OpenSpec.ofChange Rows.versionStaysSpec).bare Rows.versionStaysRow=true:=by
 unfold joinedFacts
 iterate 31 (refine Bqk ?_ ?_)
 all_goals as_aux_lemma=>kernel_rfl
theorem said:Rows.VersionStaysSaid:=
 OpenClaim.holds_of_cond 3 Tryz.f3 rfl rfl rfl rfl rfl rfl rfl ⟨rfl,rfl,rfl,rfl,rfl⟩ rfl rfl rfl rfl rfl (by as_aux_lemma=>kernel_rfl) Tryz.func3 Q4
  (of_decide_eq_true (by kernel_rfl)) (by unfold Func.isWrapper;first | (rw[if_pos (by decide +kernel)];kernel_rfl) | (rw[if_neg (by decide +kernel)];exact⟨rfl,rfl⟩))
  (fun os st H enc _ F=>by rw[OpenClaim.pre_eq_preRow];exact Q2 os st H enc F)
theorem plain(f:FuncId)(fn:Func)(hf:Tryz.pinned.checked.prog.funcNamed "interleave/interleavelaw41.VersionStays"=some f) (hfn:Tryz.pinned.checked.prog.funcs[f]?=some fn) :
  true=Tryz.pinned.checked.prog.looks [] /\ ∀ (j:Nat) t,fn.params[j]?=some t -> Tryz.pinned.checked.prog.wantsStandIn t=false:=by
 obtain rfl:f=3:=M5 ((show Tryz.prog.funcNamed "interleave/interleavelaw41.VersionStays"=some 3 by kernel_rfl).symm.trans hf) |>.symm
 obtain rfl:fn=Tryz.f3:=(M5 (Tryz.func3.symm.trans hfn)).symm
 refine⟨by kernel_rfl,fun j t ht=>?_⟩
 rw[Tryz.params3]at ht
 have ht':=Array.mem_of_getElem? ht
 simp at ht'
 have:t=24 \/ t=25 \/ t=5:=by first | exact ht' | omega | (rcases ht' with h | h<;>simp[h]) | (rcases ht' with h | h | h<;>simp[h])
 rcases this with rfl | rfl | rfl
 ·exact(show Tryz.prog.wantsStandIn 24=false by kernel_rfl)
 ·exact(show Tryz.prog.wantsStandIn 25=false by kernel_rfl)
 ·exact(show Tryz.prog.wantsStandIn 5=false by kernel_rfl)
end VersionStays
end Go.Proofs.YtphikjgngompaabGreatDoor
