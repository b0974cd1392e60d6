/- The law BaselineEncodes returns true of every list of items, every number and every value: baseline.Encode and the reference interleaveref39.Encode give the same bytes. Conditions: none beside the row's own. -/
import Derived.Test.YticpkkjnajmpoaaGreatDoorSg
import Derived.Test.YticpkkjnajmpoaaGreatDoorCd
set_option linter.all false
namespace Go.Proofs.YticpkkjnajmpoaaGreatDoor
open Go.ChangeShapes Go.WideShapes Go.ChangeAt Go.RowKit KM
namespace BaselineEncodes
set_option maxRecDepth 100000 in
theorem contract (H : Type) (enc : TypeId × Value → H) (W : World) (base : Nat) (args : Array Value) (ds gs : List (DataW H)) (before : List MemPlace)
    (hval : ∀ (j : Nat) t v, Tryz.f8.params[j]? = some t → args[j]? = some v → Value.okWide Tryz.prog W .any base t v)
    (hW : DataW.Whole enc Tryz.prog Tryz.f8.params.toList Rows.baselineEncodesSpec.vars false W args.toList ds gs before) (hL : laidMetH Tryz.prog Rows.baselineEncodesRow.laid W) (hS : W.ShapedOpen Tryz.prog) :
    Calls Tryz.prog 8 args W fun e W' => ∃ v, e = .returned v ∧ Rows.baselineEncodesSpec.post enc Tryz.prog Tryz.f8 false true false false W args v W' := by
  have hW' := hW
  obtain ⟨p, q, hA0, hV, rfl, hfz, hnd⟩ := hW
  have hA : DataW.TrodAll enc Tryz.prog W 0 (fun _ => true) true Tryz.f8.params.toList args.toList ds p := hA0
  rw [Tryz.params8] at hA hval
  obtain ⟨v0, vs0, d0, ds0, p0, q0, hargs, rfl, rfl, h0, r0⟩ := trodAll_cons hA
  obtain ⟨v1, vs1, d1, ds1, p1, q1, rfl, rfl, rfl, h1, r1⟩ := trodAll_cons r0
  obtain ⟨v2, vs2, d2, ds2, p2, q2, rfl, rfl, rfl, h2, r2⟩ := trodAll_cons r1
  obtain ⟨rfl, rfl, rfl⟩ := trodAll_nil r2
  obtain rfl : args = #[v0, v1, v2] := by cases args; simp_all
  obtain ⟨rfl, rfl⟩ := trodVars_none hV
  obtain ⟨f0, h0⟩ := h0
  obtain ⟨pc0, R0⟩ := trod_row enc Tryz.prog W _ _ [22, 86, 84, 5] (by kernel_rfl) f0 22 _ d0 _ (by decide) h0
  obtain ⟨a0, len0, cap0, rfl⟩ := okWide_slice Tryz.underlying22 (hval 0 _ v0 rfl rfl)
  obtain ⟨z0, t0, x0, rfl, hx0⟩ := items_of R0.typ
  obtain ⟨y0, hy0, e0⟩ := arg_cell R0 rfl
  cases hy0
  obtain ⟨f1, h1⟩ := h1
  obtain ⟨pc1, R1⟩ := trod_row enc Tryz.prog W _ _ [5] (by kernel_rfl) f1 5 _ d1 _ (by decide) h1
  obtain ⟨n1, rfl⟩ := okWide_int Tryz.underlying5 (hval 1 _ v1 rfl rfl)
  obtain ⟨x1, hx1, rfl⟩ := u8_of Tryz.underlying5 R1.typ
  obtain ⟨y1, hy1, e1⟩ := arg_cell R1 rfl
  cases hy1
  obtain ⟨f2, h2⟩ := h2
  obtain ⟨pc2, R2⟩ := trod_row enc Tryz.prog W _ _ [25, 23, 32, 30, 41, 3, 9] (by kernel_rfl) f2 25 _ d2 _ (by decide) h2
  obtain ⟨cs2, rfl, _⟩ := okWide_struct Tryz.underlying25 (hval 2 _ v2 rfl rfl)
  obtain ⟨x2, rfl, hx2⟩ := base_of R2.typ
  have e2 := arg_agg R2
  obtain ⟨m, hT⟩ := tabs_of (show laidMet Tryz.prog Rows.baselineEncodesRow.laid W from hL) hS (by simp [Rows.baselineEncodesRow]) (by simp [Rows.baselineEncodesRow]) (by simp [Rows.baselineEncodesRow]) (by simp [Rows.baselineEncodesRow]) (by simp [Rows.baselineEncodesRow])
  refine (law_calls (P := Tryz.prog) (G := GT m) (w := W) hTT hST hPT (vs := [SL z0 t0 (x0.map KM.Item.row), .int .u8 x1, .agg (baseRow x2)]) (us := [_, _, _]) (lawEncodes_fn z0 x2.2.1 t0 x2.2.2.1 x0 x1 x2.1 x2.2.2.2 hx1 hx0.1 hx0.2 hx2.1) hT rfl ?_).mono ?_
  · intro j hj
    match j, hj with
    | 0, _ => exact e0
    | 1, _ => exact e1
    | 2, _ => exact e2
  · rintro e W' ⟨rfl, hbl⟩
    exact ⟨_, rfl, law_post hW' (by kernel_rfl) (by kernel_rfl) rfl rfl Tryz.underlying4 rfl rfl rfl hbl⟩
def argsW : Array Value := #[.slice none 0 0, .int .u8 0, .agg #[.int .i64 0, .slice none 0 0]]
theorem laid_met (os : Os) : laidMet Tryz.prog Rows.baselineEncodesRow.laid ((laidWorld os).forCall (fun _ _ => 0) ⟨#[], argsW, []⟩).memory :=
  laidMet_of_run' 8 (by kernel_rfl) (by kernel_rfl)
theorem reads (os : Os) {H : Type} (enc : TypeId × Value → H) : ∃ places, DataW.whole enc Tryz.prog ((laidWorld os).forCall (fun _ _ => 0) ⟨#[], argsW, []⟩).memory Tryz.f8.params.toList Rows.baselineEncodesSpec.vars false argsW.toList 8 = some ([.nil, .lit (.int .u8 0), .agg [.lit (.int .i64 0), .nil]], [], places) :=
  ⟨[], by kernel_rfl⟩
set_option maxRecDepth 100000 in
theorem lifted (os : Os) (started : os.Started) (H : Type) (enc : TypeId × Value → H) (F : Stop.Interp) :
    ReturnsInHanded {} Tryz.checked os 8 .any ((OpenSpec.ofChange Rows.baselineEncodesSpec).preRow enc Tryz.prog Tryz.f8 Rows.baselineEncodesRow.domain false Rows.baselineEncodesRow.laid) (((OpenSpec.ofChange Rows.baselineEncodesSpec).at F).post enc Tryz.prog Tryz.f8 false true false false) := by
  obtain ⟨places, hx⟩ := reads os enc
  refine returnsInHanded_of_row (C := Tryz.checked) (s := OpenSpec.ofChange Rows.baselineEncodesSpec) ownKnob_none started (by kernel_rfl) Tryz.func8
    (witness_row_at (enc := enc) (C := Tryz.checked) false (laidWorld os) argsW rfl (by kernel_rfl) (by kernel_rfl) (by kernel_rfl)
      (OpenSpec.preRow_of_cond 8 hx (by kernel_rfl) (fun k hk => by cases hk) (by kernel_rfl) (laid_met os))) ?_
  intro W base args ds gs before hval hW _ _ _ hL hS _
  exact contract H enc W base args ds gs before hval hW hL hS
set_option maxRecDepth 100000 in
set_option maxHeartbeats 4000000 in
theorem closed : joinedFacts Tryz.prog 8 Tryz.f8 (OpenSpec.ofChange Rows.baselineEncodesSpec).bare Rows.baselineEncodesRow = true := by
  unfold joinedFacts
  iterate 31 (refine and_t ?_ ?_)
  all_goals as_aux_lemma => kernel_rfl
theorem said : Rows.BaselineEncodesSaid :=
  OpenClaim.holds_of_cond 8 Tryz.f8 rfl rfl rfl rfl rfl rfl rfl ⟨rfl, rfl, rfl, rfl, rfl⟩ rfl rfl rfl rfl rfl (by as_aux_lemma => kernel_rfl) Tryz.func8 closed
    (of_decide_eq_true (by kernel_rfl)) (by unfold Func.isWrapper; first | (rw [if_pos (by decide +kernel)]; kernel_rfl) | (rw [if_neg (by decide +kernel)]; exact ⟨rfl, rfl⟩))
    (fun os started H enc _ F => by rw [OpenClaim.pre_eq_preRow]; exact lifted os started H enc F)
theorem plain (f : FuncId) (fn : Func) (hf : Tryz.pinned.checked.prog.funcNamed "interleave/interleavelaw40.BaselineEncodes" = some f) (hfn : Tryz.pinned.checked.prog.funcs[f]? = some fn) :
    true = Tryz.pinned.checked.prog.looks [] ∧ ∀ (j : Nat) t, fn.params[j]? = some t → Tryz.pinned.checked.prog.wantsStandIn t = false := by
  obtain rfl : f = 8 := Option.some.inj ((show Tryz.prog.funcNamed "interleave/interleavelaw40.BaselineEncodes" = some 8 by kernel_rfl).symm.trans hf) |>.symm
  obtain rfl : fn = Tryz.f8 := (Option.some.inj (Tryz.func8.symm.trans hfn)).symm
  refine ⟨by kernel_rfl, fun j t ht => ?_⟩
  rw [Tryz.params8] at ht
  have ht' := Array.mem_of_getElem? ht
  simp at ht'
  have : t = 22 ∨ t = 5 ∨ t = 25 := by omega
  rcases this with rfl | rfl | rfl
  · exact (show Tryz.prog.wantsStandIn 22 = false by kernel_rfl)
  · exact (show Tryz.prog.wantsStandIn 5 = false by kernel_rfl)
  · exact (show Tryz.prog.wantsStandIn 25 = false by kernel_rfl)
end BaselineEncodes
/-- THE CARD: BaselineEncodes is true of every input. -/
theorem baselineEncodes_card : Rows.BaselineEncodesCardSaid :=
  Claim7.holds_tied_plain_at .later [] _ _ _ _ BaselineEncodes.said (fun _ h => by cases h) (by kernel_rfl) (fun _ h => by cases h) baselineEncodes_row_tie rfl ⟨rfl, rfl⟩ (by kernel_rfl) rfl BaselineEncodes.plain (by kernel_rfl)
end Go.Proofs.YticpkkjnajmpoaaGreatDoor
