/- The law FormatLines returns true of every list of bytes: the text of a program has one line for each declaration, two for each thread, and one for each statement without a body, two for each one with a body, and one more for each nonempty Else. Conditions: none beside the row's own. -/
import Derived.Test.YtlehfgdhebapeaaDoorIp
import Derived.Test.YtlehfgdhebapeaaDoorCb
set_option linter.all false
namespace Go.Proofs.YtlehfgdhebapeaaDoor
open Go.ChangeShapes Go.WideShapes Go.ChangeAt Go.RowKit KM
namespace FormatLines
set_option maxRecDepth 100000 in
theorem contract (H : Type) (enc : TypeId × Value → H) (W : World) (base : Nat) (args : Array Value) (ds gs : List (DataW H)) (before : List MemPlace)
    (hval : ∀ (j : Nat) t v, Tryd.f4.params[j]? = some t → args[j]? = some v → Value.okWide Tryd.prog W .any base t v)
    (hW : DataW.Whole enc Tryd.prog Tryd.f4.params.toList Rows.formatLinesSpec.vars false W args.toList ds gs before) (hL : laidMetH Tryd.prog Rows.formatLinesRow.laid W) (hS : W.ShapedOpen Tryd.prog) :
    Calls Tryd.prog 4 args W fun e W' => ∃ v, e = .returned v ∧ Rows.formatLinesSpec.post enc Tryd.prog Tryd.f4 false true false false W args v W' := by
  have hW' := hW
  obtain ⟨p, q, hA0, hV, rfl, hfz, hnd⟩ := hW
  have hA : DataW.TrodAll enc Tryd.prog W 0 (fun _ => true) true Tryd.f4.params.toList args.toList ds p := hA0
  rw [Tryd.params4] at hA hval
  obtain ⟨v0, vs0, d0, ds0, p0, q0, hargs, rfl, rfl, h0, r0⟩ := trodAll_cons hA
  obtain ⟨rfl, rfl, rfl⟩ := trodAll_nil r0
  obtain rfl : args = #[v0] := by cases args; simp_all
  obtain ⟨rfl, rfl⟩ := trodVars_none hV
  obtain ⟨f0, h0⟩ := h0
  obtain ⟨pc0, R0⟩ := trod_row enc Tryd.prog W _ _ [22, 5] (by kernel_rfl) f0 22 _ d0 _ (by decide) h0
  obtain ⟨a0, len0, cap0, rfl⟩ := okWide_slice Tryd.underlying22 (hval 0 _ v0 rfl rfl)
  obtain ⟨z0, t0, x0, rfl, hx0⟩ := bts_of R0.typ
  obtain ⟨y0, hy0, e0⟩ := arg_cell R0 rfl
  cases hy0
  obtain ⟨m, hT⟩ := tabs_of2 (show laidMet Tryd.prog Rows.formatLinesRow.laid W from hL) (by simp [Rows.formatLinesRow]) (by simp [Rows.formatLinesRow])
  refine (law_calls (P := Tryd.prog) (G := GT m) (w := W) hTT hST hPT (vs := [SL z0 t0 (byteRows x0)]) (us := [_]) (lawLines_fn z0 t0 x0 hx0) hT rfl ?_).mono ?_
  · intro j hj
    match j, hj with
    | 0, _ => exact e0
  · rintro e W' ⟨rfl, hbl⟩
    exact ⟨_, rfl, law_post hW' (by kernel_rfl) (by kernel_rfl) rfl rfl Tryd.underlying4 rfl rfl rfl hbl⟩
def argsW : Array Value := #[.slice none 0 0]
theorem laid_met (os : Os) : laidMet Tryd.prog Rows.formatLinesRow.laid ((laidWorld os).forCall (fun _ _ => 0) ⟨#[], argsW, []⟩).memory :=
  laidMet_of_run' 8 (by kernel_rfl) (by kernel_rfl)
theorem reads (os : Os) {H : Type} (enc : TypeId × Value → H) : ∃ places, DataW.whole enc Tryd.prog ((laidWorld os).forCall (fun _ _ => 0) ⟨#[], argsW, []⟩).memory Tryd.f4.params.toList Rows.formatLinesSpec.vars false argsW.toList 8 = some ([.nil], [], places) :=
  ⟨[], by kernel_rfl⟩
set_option maxRecDepth 100000 in
theorem lifted (os : Os) (started : os.Started) (H : Type) (enc : TypeId × Value → H) (F : Stop.Interp) :
    ReturnsInHanded {} Tryd.checked os 4 .any ((OpenSpec.ofChange Rows.formatLinesSpec).preRow enc Tryd.prog Tryd.f4 Rows.formatLinesRow.domain false Rows.formatLinesRow.laid) (((OpenSpec.ofChange Rows.formatLinesSpec).at F).post enc Tryd.prog Tryd.f4 false true false false) := by
  obtain ⟨places, hx⟩ := reads os enc
  refine returnsInHanded_of_row (C := Tryd.checked) (s := OpenSpec.ofChange Rows.formatLinesSpec) ownKnob_none started (by kernel_rfl) Tryd.func4
    (witness_row_at (enc := enc) (C := Tryd.checked) false (laidWorld os) argsW rfl (by kernel_rfl) (by kernel_rfl) (by kernel_rfl)
      (OpenSpec.preRow_of_cond 8 hx (by kernel_rfl) (fun k hk => by cases hk) (by kernel_rfl) (laid_met os))) ?_
  intro W base args ds gs before hval hW _ _ _ hL hS _
  exact contract H enc W base args ds gs before hval hW hL hS
set_option maxRecDepth 100000 in
set_option maxHeartbeats 4000000 in
theorem closed : joinedFacts Tryd.prog 4 Tryd.f4 (OpenSpec.ofChange Rows.formatLinesSpec).bare Rows.formatLinesRow = true := by
  unfold joinedFacts
  iterate 31 (refine and_t ?_ ?_)
  all_goals as_aux_lemma => kernel_rfl
theorem said : Rows.FormatLinesSaid :=
  OpenClaim.holds_of_cond 4 Tryd.f4 rfl rfl rfl rfl rfl rfl rfl ⟨rfl, rfl, rfl, rfl, rfl⟩ rfl rfl rfl rfl rfl (by as_aux_lemma => kernel_rfl) Tryd.func4 closed
    (of_decide_eq_true (by kernel_rfl)) (by unfold Func.isWrapper; first | (rw [if_pos (by decide +kernel)]; kernel_rfl) | (rw [if_neg (by decide +kernel)]; exact ⟨rfl, rfl⟩))
    (fun os started H enc _ F => by rw [OpenClaim.pre_eq_preRow]; exact lifted os started H enc F)
theorem plain (f : FuncId) (fn : Func) (hf : Tryd.pinned.checked.prog.funcNamed "interleave/interleavelaw03.FormatLines" = some f) (hfn : Tryd.pinned.checked.prog.funcs[f]? = some fn) :
    true = Tryd.pinned.checked.prog.looks [] ∧ ∀ (j : Nat) t, fn.params[j]? = some t → Tryd.pinned.checked.prog.wantsStandIn t = false := by
  obtain rfl : f = 4 := Option.some.inj ((show Tryd.prog.funcNamed "interleave/interleavelaw03.FormatLines" = some 4 by kernel_rfl).symm.trans hf) |>.symm
  obtain rfl : fn = Tryd.f4 := (Option.some.inj (Tryd.func4.symm.trans hfn)).symm
  refine ⟨by kernel_rfl, fun j t ht => ?_⟩
  rw [Tryd.params4] at ht
  have ht' := Array.mem_of_getElem? ht
  simp at ht'
  subst ht'
  exact (show Tryd.prog.wantsStandIn 22 = false by kernel_rfl)
end FormatLines
/-- THE CARD: FormatLines is true of every input. -/
theorem formatLines_card : Rows.FormatLinesCardSaid :=
  Claim7.holds_tied_plain_at .later [] _ _ _ _ FormatLines.said (fun _ h => by cases h) (by kernel_rfl) (fun _ h => by cases h) formatLines_row_tie rfl ⟨rfl, rfl⟩ (by kernel_rfl) rfl FormatLines.plain (by kernel_rfl)
end Go.Proofs.YtlehfgdhebapeaaDoor
