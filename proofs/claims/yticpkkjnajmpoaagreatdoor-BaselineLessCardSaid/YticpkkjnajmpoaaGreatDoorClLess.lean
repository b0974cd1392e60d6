/- The law BaselineLess returns true of every two entries and every number: baseline.Less and the reference interleaveref39.CompareEntries order them alike. Conditions: none beside the row's own. -/
import Derived.Test.YticpkkjnajmpoaaGreatDoorPb
import Derived.Test.YticpkkjnajmpoaaGreatDoorCc
set_option linter.all false
namespace Go.Proofs.YticpkkjnajmpoaaGreatDoor
open Go.ChangeShapes Go.WideShapes Go.ChangeAt Go.RowKit KM
namespace BaselineLess
set_option maxRecDepth 100000 in
theorem contract (H : Type) (enc : TypeId × Value → H) (W : World) (base : Nat) (args : Array Value) (ds gs : List (DataW H)) (before : List MemPlace)
    (hval : ∀ (j : Nat) t v, Tryz.f4.params[j]? = some t → args[j]? = some v → Value.okWide Tryz.prog W .any base t v)
    (hW : DataW.Whole enc Tryz.prog Tryz.f4.params.toList Rows.baselineLessSpec.vars false W args.toList ds gs before) (hL : laidMetH Tryz.prog Rows.baselineLessRow.laid W) (hS : W.ShapedOpen Tryz.prog) :
    Calls Tryz.prog 4 args W fun e W' => ∃ v, e = .returned v ∧ Rows.baselineLessSpec.post enc Tryz.prog Tryz.f4 false true false false W args v W' := by
  have hW' := hW
  obtain ⟨p, q, hA0, hV, rfl, hfz, hnd⟩ := hW
  have hA : DataW.TrodAll enc Tryz.prog W 0 (fun _ => true) true Tryz.f4.params.toList args.toList ds p := hA0
  rw [Tryz.params4] at hA hval
  obtain ⟨v0, vs0, d0, ds0, p0, q0, hargs, rfl, rfl, h0, r0⟩ := trodAll_cons hA
  obtain ⟨v1, vs1, d1, ds1, p1, q1, rfl, rfl, rfl, h1, r1⟩ := trodAll_cons r0
  obtain ⟨v2, vs2, d2, ds2, p2, q2, rfl, rfl, rfl, h2, r2⟩ := trodAll_cons r1
  obtain ⟨rfl, rfl, rfl⟩ := trodAll_nil r2
  obtain rfl : args = #[v0, v1, v2] := by cases args; simp_all
  obtain ⟨rfl, rfl⟩ := trodVars_none hV
  obtain ⟨f0, h0⟩ := h0
  obtain ⟨pc0, R0⟩ := trod_row enc Tryz.prog W _ _ [32, 30, 41, 3, 9] (by kernel_rfl) f0 32 _ d0 _ (by decide) h0
  obtain ⟨cs0, rfl, _⟩ := okWide_struct Tryz.underlying32 (hval 0 _ v0 rfl rfl)
  obtain ⟨x0, rfl, hx0⟩ := ent_of R0.typ
  have e0 := arg_agg R0
  obtain ⟨f1, h1⟩ := h1
  obtain ⟨pc1, R1⟩ := trod_row enc Tryz.prog W _ _ [32, 30, 41, 3, 9] (by kernel_rfl) f1 32 _ d1 _ (by decide) h1
  obtain ⟨cs1, rfl, _⟩ := okWide_struct Tryz.underlying32 (hval 1 _ v1 rfl rfl)
  obtain ⟨x1, rfl, hx1⟩ := ent_of R1.typ
  have e1 := arg_agg R1
  obtain ⟨f2, h2⟩ := h2
  obtain ⟨pc2, R2⟩ := trod_row enc Tryz.prog W _ _ [5] (by kernel_rfl) f2 5 _ d2 _ (by decide) h2
  obtain ⟨n2, rfl⟩ := okWide_int Tryz.underlying5 (hval 2 _ v2 rfl rfl)
  obtain ⟨x2, rfl, hx2⟩ := hasT_int Tryz.underlying5 R2.typ
  obtain ⟨y2, hy2, e2⟩ := arg_cell R2 rfl
  cases hy2
  obtain ⟨m, hT⟩ := tabs_of (show laidMet Tryz.prog Rows.baselineLessRow.laid W from hL) hS (by simp [Rows.baselineLessRow]) (by simp [Rows.baselineLessRow]) (by simp [Rows.baselineLessRow]) (by simp [Rows.baselineLessRow]) (by simp [Rows.baselineLessRow])
  refine (law_calls (P := Tryz.prog) (G := GT m) (w := W) hTT hST hPT (vs := [.agg x0.row, .agg x1.row, .int .u8 x2]) (us := [_, _, _]) (lawLess_fn x0 x1 x2 hx0 hx1) hT rfl ?_).mono ?_
  · intro j hj
    match j, hj with
    | 0, _ => exact e0
    | 1, _ => exact e1
    | 2, _ => exact e2
  · rintro e W' ⟨rfl, hbl⟩
    exact ⟨_, rfl, law_post hW' (by kernel_rfl) (by kernel_rfl) rfl rfl Tryz.underlying4 rfl rfl rfl hbl⟩
def argsW : Array Value := #[.agg #[.int .i64 0, .slice none 0 0, .int .i64 0, .int .i64 0], .agg #[.int .i64 0, .slice none 0 0, .int .i64 0, .int .i64 0], .int .u8 0]
theorem laid_met (os : Os) : laidMet Tryz.prog Rows.baselineLessRow.laid ((laidWorld os).forCall (fun _ _ => 0) ⟨#[], argsW, []⟩).memory :=
  laidMet_of_run' 8 (by kernel_rfl) (by kernel_rfl)
theorem reads (os : Os) {H : Type} (enc : TypeId × Value → H) : ∃ places, DataW.whole enc Tryz.prog ((laidWorld os).forCall (fun _ _ => 0) ⟨#[], argsW, []⟩).memory Tryz.f4.params.toList Rows.baselineLessSpec.vars false argsW.toList 8 = some ([.agg [.lit (.int .i64 0), .nil, .lit (.int .i64 0), .lit (.int .i64 0)], .agg [.lit (.int .i64 0), .nil, .lit (.int .i64 0), .lit (.int .i64 0)], .lit (.int .u8 0)], [], places) :=
  ⟨[], by kernel_rfl⟩
set_option maxRecDepth 100000 in
theorem lifted (os : Os) (started : os.Started) (H : Type) (enc : TypeId × Value → H) (F : Stop.Interp) :
    ReturnsInHanded {} Tryz.checked os 4 .any ((OpenSpec.ofChange Rows.baselineLessSpec).preRow enc Tryz.prog Tryz.f4 Rows.baselineLessRow.domain false Rows.baselineLessRow.laid) (((OpenSpec.ofChange Rows.baselineLessSpec).at F).post enc Tryz.prog Tryz.f4 false true false false) := by
  obtain ⟨places, hx⟩ := reads os enc
  refine returnsInHanded_of_row (C := Tryz.checked) (s := OpenSpec.ofChange Rows.baselineLessSpec) ownKnob_none started (by kernel_rfl) Tryz.func4
    (witness_row_at (enc := enc) (C := Tryz.checked) false (laidWorld os) argsW rfl (by kernel_rfl) (by kernel_rfl) (by kernel_rfl)
      (OpenSpec.preRow_of_cond 8 hx (by kernel_rfl) (fun k hk => by cases hk) (by kernel_rfl) (laid_met os))) ?_
  intro W base args ds gs before hval hW _ _ _ hL hS _
  exact contract H enc W base args ds gs before hval hW hL hS
set_option maxRecDepth 100000 in
set_option maxHeartbeats 4000000 in
theorem closed : joinedFacts Tryz.prog 4 Tryz.f4 (OpenSpec.ofChange Rows.baselineLessSpec).bare Rows.baselineLessRow = true := by
  unfold joinedFacts
  iterate 31 (refine and_t ?_ ?_)
  all_goals as_aux_lemma => kernel_rfl
theorem said : Rows.BaselineLessSaid :=
  OpenClaim.holds_of_cond 4 Tryz.f4 rfl rfl rfl rfl rfl rfl rfl ⟨rfl, rfl, rfl, rfl, rfl⟩ rfl rfl rfl rfl rfl (by as_aux_lemma => kernel_rfl) Tryz.func4 closed
    (of_decide_eq_true (by kernel_rfl)) (by unfold Func.isWrapper; first | (rw [if_pos (by decide +kernel)]; kernel_rfl) | (rw [if_neg (by decide +kernel)]; exact ⟨rfl, rfl⟩))
    (fun os started H enc _ F => by rw [OpenClaim.pre_eq_preRow]; exact lifted os started H enc F)
theorem plain (f : FuncId) (fn : Func) (hf : Tryz.pinned.checked.prog.funcNamed "interleave/interleavelaw40.BaselineLess" = some f) (hfn : Tryz.pinned.checked.prog.funcs[f]? = some fn) :
    true = Tryz.pinned.checked.prog.looks [] ∧ ∀ (j : Nat) t, fn.params[j]? = some t → Tryz.pinned.checked.prog.wantsStandIn t = false := by
  obtain rfl : f = 4 := Option.some.inj ((show Tryz.prog.funcNamed "interleave/interleavelaw40.BaselineLess" = some 4 by kernel_rfl).symm.trans hf) |>.symm
  obtain rfl : fn = Tryz.f4 := (Option.some.inj (Tryz.func4.symm.trans hfn)).symm
  refine ⟨by kernel_rfl, fun j t ht => ?_⟩
  rw [Tryz.params4] at ht
  have ht' := Array.mem_of_getElem? ht
  simp at ht'
  have : t = 32 ∨ t = 5 := by omega
  rcases this with rfl | rfl
  · exact (show Tryz.prog.wantsStandIn 32 = false by kernel_rfl)
  · exact (show Tryz.prog.wantsStandIn 5 = false by kernel_rfl)
end BaselineLess
/-- THE CARD: BaselineLess is true of every input. -/
theorem baselineLess_card : Rows.BaselineLessCardSaid :=
  Claim7.holds_tied_plain_at .later [] _ _ _ _ BaselineLess.said (fun _ h => by cases h) (by kernel_rfl) (fun _ h => by cases h) baselineLess_row_tie rfl ⟨rfl, rfl⟩ (by kernel_rfl) rfl BaselineLess.plain (by kernel_rfl)
end Go.Proofs.YticpkkjnajmpoaaGreatDoor
