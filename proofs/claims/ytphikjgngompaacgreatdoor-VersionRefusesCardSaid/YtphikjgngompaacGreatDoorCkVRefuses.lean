/- The law VersionRefuses returns true of every pair of versions and every value of a baseline's type: version.Rebase and the reference interleaveref39.Rebase refuse the same values. The proof. -/
import Derived.Test.YtphikjgngompaacGreatDoorVr
set_option linter.all false
namespace Go.Proofs.YtphikjgngompaacGreatDoor
open Go.ChangeShapes Go.WideShapes Go.ChangeAt Go.RowKit KM
namespace VersionRefuses
set_option maxRecDepth 100000 in
theorem Q1(H:Type)(enc:TypeId × Value -> H)(W:World)(base:Nat)(args:Array Value)(ds gs:List (DataW H))(bf:List MemPlace)
  (hq:∀ (j:Nat) t v,Tryz.f3.params[j]?=some t -> args[j]?=some v -> Value.okWide Tryz.prog W .any base t v)
  (hW:DataW.Whole enc Tryz.prog Tryz.f3.params.toList Rows.versionRefusesSpec.vars false W args.toList ds gs bf) (hL:laidMetH Tryz.prog Rows.versionRefusesRow.laid W) (hS:W.ShapedOpen Tryz.prog) :
  Calls Tryz.prog 3 args W fun e W'=>∃ v,e=.returned v /\ Rows.versionRefusesSpec.post enc Tryz.prog Tryz.f3 false true false false W args v W':=by
 have hW':=hW
 obtain⟨p,q,hA0,hV,rfl,hfz,hnd⟩:=hW
 have hA:DataW.TrodAll enc Tryz.prog W 0 (fun _=>true) true Tryz.f3.params.toList args.toList ds p:=hA0
 rw[Tryz.params3]at hA hq
 obtain⟨v0,vs0,d0,ds0,p0,q0,hr,rfl,rfl,h0,r0⟩:=trodAll_cons hA
 obtain⟨v1,vs1,d1,ds1,p1,q1,rfl,rfl,rfl,h1,r1⟩:=trodAll_cons r0
 obtain⟨rfl,rfl,rfl⟩:=trodAll_nil r1
 obtain rfl:args=#[v0,v1]:=by cases args;simp_all
 obtain⟨rfl,rfl⟩:=trodVars_none hV
 obtain⟨f0,h0⟩:=h0
 obtain⟨pc0,R0⟩:=Yt enc Tryz.prog W _ _ [24,22,5,4] (by kernel_rfl) f0 24 _ d0 _ (by decide) h0
 obtain⟨cs0,rfl,_⟩:=okWide_struct Tryz.underlying24 (hq 0 _ v0 rfl rfl)
 obtain⟨x0,rfl,hx0⟩:=Ba1 R0.typ
 have e0:=At3 R0
 obtain⟨f1,h1⟩:=h1
 obtain⟨pc1,R1⟩:=Yt enc Tryz.prog W _ _ [27,25,30,28,57,3,9] (by kernel_rfl) f1 27 _ d1 _ (by decide) h1
 obtain⟨cs1,rfl,_⟩:=okWide_struct Tryz.underlying27 (hq 1 _ v1 rfl rfl)
 obtain⟨x1,rfl,hx1⟩:=Ba7 R1.typ
 have e1:=At3 R1
 obtain⟨m,hT⟩:=Ba0 (show laidMet Tryz.prog Rows.versionRefusesRow.laid W from hL) hS (by simp[Rows.versionRefusesRow]) (by simp[Rows.versionRefusesRow]) (by simp[Rows.versionRefusesRow]) (by simp[Rows.versionRefusesRow]) (by simp[Rows.versionRefusesRow])
 refine(A2y (P:=Tryz.prog) (G:=GT m) (w:=W) hTT hST hPT (vs:=[.agg x0.row,.agg (Ajq x1)]) (us:=[_,_]) (A0d x0.z0 x0.z1 x0.z2 x0.t0 x0.t1 x0.t2 x0.a x0.b x0.c x0.un x1.2.1 x1.2.2.1 x1.1 x1.2.2.2 hx0.1 hx0.2.1 hx0.2.2 hx1.1 hx1.2) hT rfl ?_).mono ?_
 ·intro j hj
  match j,hj with
  | 0,_=>exact e0
  | 1,_=>exact e1
 ·rintro e W' ⟨rfl,hbl⟩
  exact⟨_,rfl,A6e hW' (by kernel_rfl) (by kernel_rfl) rfl rfl Tryz.underlying4 rfl rfl rfl hbl⟩
def Q5:Array Value:=#[.agg #[.slice none 0 0,.slice none 0 0,.slice none 0 0,.bool false],.agg #[.int .i64 0,.slice none 0 0]]
theorem Q3(os:Os):laidMet Tryz.prog Rows.versionRefusesRow.laid ((laidWorld os).forCall (fun _ _=>0) ⟨#[],Q5,[]⟩).memory:=
 laidMet_of_run' 8 (by kernel_rfl) (by kernel_rfl)
theorem Q6(os:Os){H:Type}(enc:TypeId × Value -> H):∃ pl,DataW.whole enc Tryz.prog ((laidWorld os).forCall (fun _ _=>0) ⟨#[],Q5,[]⟩).memory Tryz.f3.params.toList Rows.versionRefusesSpec.vars false Q5.toList 8=some ([.agg [.nil,.nil,.nil,.lit (.bool false)],.agg [.lit (.int .i64 0),.nil]],[],pl):=
 ⟨[],by kernel_rfl⟩
set_option maxRecDepth 100000 in
theorem Q2(os:Os)(st:os.Started)(H:Type)(enc:TypeId × Value -> H)(F:Stop.Interp):
  ReturnsInHanded {} Tryz.checked os 3 .any ((OpenSpec.ofChange Rows.versionRefusesSpec).preRow enc Tryz.prog Tryz.f3 Rows.versionRefusesRow.domain false Rows.versionRefusesRow.laid) (((OpenSpec.ofChange Rows.versionRefusesSpec).at F).post enc Tryz.prog Tryz.f3 false true false false):=by
 obtain⟨pl,hx⟩:=Q6 os enc
 refine returnsInHanded_of_row (C:=Tryz.checked) (s:=OpenSpec.ofChange Rows.versionRefusesSpec) A0i st (by kernel_rfl) Tryz.func3
  (witness_row_at (enc:=enc) (C:=Tryz.checked) false (laidWorld os) Q5 rfl (by kernel_rfl) (by kernel_rfl) (by kernel_rfl)
   (OpenSpec.preRow_of_cond 8 hx (by kernel_rfl) (fun k hk=>by cases hk) (by kernel_rfl) (Q3 os))) ?_
 intro W base args ds gs bf hq hW _ _ _ hL hS _
 exact Q1 H enc W base args ds gs bf hq hW hL hS
set_option maxRecDepth 100000 in
set_option maxHeartbeats 4000000 in
theorem Q4:joinedFacts Tryz.prog 3 Tryz.f3 (OpenSpec.ofChange Rows.versionRefusesSpec).bare Rows.versionRefusesRow=true:=by
 unfold joinedFacts
 iterate 31 (refine Bml ?_ ?_)
 all_goals as_aux_lemma=>kernel_rfl
theorem said:Rows.VersionRefusesSaid:=
 OpenClaim.holds_of_cond 3 Tryz.f3 rfl rfl rfl rfl rfl rfl rfl ⟨rfl,rfl,rfl,rfl,rfl⟩ rfl rfl rfl rfl rfl (by as_aux_lemma=>kernel_rfl) Tryz.func3 Q4
  (of_decide_eq_true (by kernel_rfl)) (by unfold Func.isWrapper;first | (rw[if_pos (by decide +kernel)];kernel_rfl) | (rw[if_neg (by decide +kernel)];exact⟨rfl,rfl⟩))
  (fun os st H enc _ F=>by rw[OpenClaim.pre_eq_preRow];exact Q2 os st H enc F)
theorem plain(f:FuncId)(fn:Func)(hf:Tryz.pinned.checked.prog.funcNamed "interleave/interleavelaw41.VersionRefuses"=some f) (hfn:Tryz.pinned.checked.prog.funcs[f]?=some fn) :
  true=Tryz.pinned.checked.prog.looks [] /\ ∀ (j:Nat) t,fn.params[j]?=some t -> Tryz.pinned.checked.prog.wantsStandIn t=false:=by
 obtain rfl:f=3:=Nz ((show Tryz.prog.funcNamed "interleave/interleavelaw41.VersionRefuses"=some 3 by kernel_rfl).symm.trans hf) |>.symm
 obtain rfl:fn=Tryz.f3:=(Nz (Tryz.func3.symm.trans hfn)).symm
 refine⟨by kernel_rfl,fun j t ht=>?_⟩
 rw[Tryz.params3]at ht
 have ht':=Array.mem_of_getElem? ht
 simp at ht'
 have:t=24 \/ t=27:=by first | exact ht' | omega | (rcases ht' with h | h<;>simp[h])
 rcases this with rfl | rfl
 ·exact(show Tryz.prog.wantsStandIn 24=false by kernel_rfl)
 ·exact(show Tryz.prog.wantsStandIn 27=false by kernel_rfl)
end VersionRefuses
end Go.Proofs.YtphikjgngompaacGreatDoor
