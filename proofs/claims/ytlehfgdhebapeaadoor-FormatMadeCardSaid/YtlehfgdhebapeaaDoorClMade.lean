/- The law FormatMade returns true of every list of bytes and every number: format.Program and format.Stmt give the specified texts of programs that are made. Conditions: none beside the row's own. -/
import Derived.Test.YtlehfgdhebapeaaDoorIp
import Derived.Test.YtlehfgdhebapeaaDoorCb
set_option linter.all false
namespace Go.Proofs.YtlehfgdhebapeaaDoor
open Go.ChangeShapes Go.WideShapes Go.ChangeAt Go.RowKit KM
namespace FormatMade
theorem i8_rg {n : Int} (hw : (Lit.int .i8 n).wf = true) : -128 ≤ n ∧ n ≤ 127 := by
  simp only [Lit.wf, Bool.and_eq_true, decide_eq_true_eq] at hw
  exact hw
set_option maxRecDepth 100000 in
theorem contract (H : Type) (enc : TypeId × Value → H) (W : World) (base : Nat) (args : Array Value) (ds gs : List (DataW H)) (before : List MemPlace)
    (hval : ∀ (j : Nat) t v, Tryd.f5.params[j]? = some t → args[j]? = some v → Value.okWide Tryd.prog W .any base t v)
    (hW : DataW.Whole enc Tryd.prog Tryd.f5.params.toList Rows.formatMadeSpec.vars false W args.toList ds gs before) (hL : laidMetH Tryd.prog Rows.formatMadeRow.laid W) (hS : W.ShapedOpen Tryd.prog) :
    Calls Tryd.prog 5 args W fun e W' => ∃ v, e = .returned v ∧ Rows.formatMadeSpec.post enc Tryd.prog Tryd.f5 false true false false W args v W' := by
  have hW' := hW
  obtain ⟨p, q, hA0, hV, rfl, hfz, hnd⟩ := hW
  have hA : DataW.TrodAll enc Tryd.prog W 0 (fun _ => true) true Tryd.f5.params.toList args.toList ds p := hA0
  rw [Tryd.params5] at hA hval
  obtain ⟨v0, vs0, d0, ds0, p0, q0, hargs, rfl, rfl, h0, r0⟩ := trodAll_cons hA
  obtain ⟨v1, vs1, d1, ds1, p1, q1, rfl, rfl, rfl, h1, r1⟩ := trodAll_cons r0
  obtain ⟨rfl, rfl, rfl⟩ := trodAll_nil r1
  obtain rfl : args = #[v0, v1] := by cases args; simp_all
  obtain ⟨rfl, rfl⟩ := trodVars_none hV
  obtain ⟨f0, h0⟩ := h0
  obtain ⟨pc0, R0⟩ := trod_row enc Tryd.prog W _ _ [22, 5] (by kernel_rfl) f0 22 _ d0 _ (by decide) h0
  obtain ⟨a0, len0, cap0, rfl⟩ := okWide_slice Tryd.underlying22 (hval 0 _ v0 rfl rfl)
  obtain ⟨z0, t0, x0, rfl, hx0⟩ := bts_of R0.typ
  obtain ⟨y0, hy0, e0⟩ := arg_cell R0 rfl
  cases hy0
  obtain ⟨f1, h1⟩ := h1
  obtain ⟨pc1, R1⟩ := trod_row enc Tryd.prog W _ _ [37] (by kernel_rfl) f1 37 _ d1 _ (by decide) h1
  obtain ⟨n1, rfl⟩ := okWide_int Tryd.underlying37 (hval 1 _ v1 rfl rfl)
  obtain ⟨x1, rfl, hx1⟩ := hasT_int Tryd.underlying37 R1.typ
  obtain ⟨y1, hy1, e1⟩ := arg_cell R1 rfl
  cases hy1
  obtain ⟨m, hT⟩ := tabs_of2 (show laidMet Tryd.prog Rows.formatMadeRow.laid W from hL) (by simp [Rows.formatMadeRow]) (by simp [Rows.formatMadeRow])
  refine (law_calls (P := Tryd.prog) (G := GT m) (w := W) hTT hST hPT (vs := [SL z0 t0 (byteRows x0), .int .i8 x1]) (us := [_, _]) (lawMade_fn z0 t0 x0 hx0 x1 (i8_rg hx1)) hT rfl ?_).mono ?_
  · intro j hj
    match j, hj with
    | 0, _ => exact e0
    | 1, _ => exact e1
  · rintro e W' ⟨rfl, hbl⟩
    exact ⟨_, rfl, law_post hW' (by kernel_rfl) (by kernel_rfl) rfl rfl Tryd.underlying4 rfl rfl rfl hbl⟩
def argsW : Array Value := #[.slice none 0 0, .int .i8 0]
theorem laid_met (os : Os) : laidMet Tryd.prog Rows.formatMadeRow.laid ((laidWorld os).forCall (fun _ _ => 0) ⟨#[], argsW, []⟩).memory :=
  laidMet_of_run' 8 (by kernel_rfl) (by kernel_rfl)
theorem reads (os : Os) {H : Type} (enc : TypeId × Value → H) : ∃ places, DataW.whole enc Tryd.prog ((laidWorld os).forCall (fun _ _ => 0) ⟨#[], argsW, []⟩).memory Tryd.f5.params.toList Rows.formatMadeSpec.vars false argsW.toList 8 = some ([.nil, .lit (.int .i8 0)], [], places) :=
  ⟨[], by kernel_rfl⟩
set_option maxRecDepth 100000 in
theorem lifted (os : Os) (started : os.Started) (H : Type) (enc : TypeId × Value → H) (F : Stop.Interp) :
    ReturnsInHanded {} Tryd.checked os 5 .any ((OpenSpec.ofChange Rows.formatMadeSpec).preRow enc Tryd.prog Tryd.f5 Rows.formatMadeRow.domain false Rows.formatMadeRow.laid) (((OpenSpec.ofChange Rows.formatMadeSpec).at F).post enc Tryd.prog Tryd.f5 false true false false) := by
  obtain ⟨places, hx⟩ := reads os enc
  refine returnsInHanded_of_row (C := Tryd.checked) (s := OpenSpec.ofChange Rows.formatMadeSpec) ownKnob_none started (by kernel_rfl) Tryd.func5
    (witness_row_at (enc := enc) (C := Tryd.checked) false (laidWorld os) argsW rfl (by kernel_rfl) (by kernel_rfl) (by kernel_rfl)
      (OpenSpec.preRow_of_cond 8 hx (by kernel_rfl) (fun k hk => by cases hk) (by kernel_rfl) (laid_met os))) ?_
  intro W base args ds gs before hval hW _ _ _ hL hS _
  exact contract H enc W base args ds gs before hval hW hL hS
set_option maxRecDepth 100000 in
set_option maxHeartbeats 4000000 in
theorem closed : joinedFacts Tryd.prog 5 Tryd.f5 (OpenSpec.ofChange Rows.formatMadeSpec).bare Rows.formatMadeRow = true := by
  unfold joinedFacts
  iterate 31 (refine and_t ?_ ?_)
  all_goals as_aux_lemma => kernel_rfl
theorem said : Rows.FormatMadeSaid :=
  OpenClaim.holds_of_cond 5 Tryd.f5 rfl rfl rfl rfl rfl rfl rfl ⟨rfl, rfl, rfl, rfl, rfl⟩ rfl rfl rfl rfl rfl (by as_aux_lemma => kernel_rfl) Tryd.func5 closed
    (of_decide_eq_true (by kernel_rfl)) (by unfold Func.isWrapper; first | (rw [if_pos (by decide +kernel)]; kernel_rfl) | (rw [if_neg (by decide +kernel)]; exact ⟨rfl, rfl⟩))
    (fun os started H enc _ F => by rw [OpenClaim.pre_eq_preRow]; exact lifted os started H enc F)
theorem plain (f : FuncId) (fn : Func) (hf : Tryd.pinned.checked.prog.funcNamed "interleave/interleavelaw03.FormatMade" = some f) (hfn : Tryd.pinned.checked.prog.funcs[f]? = some fn) :
    true = Tryd.pinned.checked.prog.looks [] ∧ ∀ (j : Nat) t, fn.params[j]? = some t → Tryd.pinned.checked.prog.wantsStandIn t = false := by
  obtain rfl : f = 5 := Option.some.inj ((show Tryd.prog.funcNamed "interleave/interleavelaw03.FormatMade" = some 5 by kernel_rfl).symm.trans hf) |>.symm
  obtain rfl : fn = Tryd.f5 := (Option.some.inj (Tryd.func5.symm.trans hfn)).symm
  refine ⟨by kernel_rfl, fun j t ht => ?_⟩
  rw [Tryd.params5] at ht
  have ht' := Array.mem_of_getElem? ht
  simp at ht'
  have : t = 22 ∨ t = 37 := by first | exact ht' | omega | (rcases ht' with h | h <;> simp [h])
  rcases this with rfl | rfl
  · exact (show Tryd.prog.wantsStandIn 22 = false by kernel_rfl)
  · exact (show Tryd.prog.wantsStandIn 37 = false by kernel_rfl)
end FormatMade
/-- THE CARD: FormatMade is true of every input. -/
theorem formatMade_card : Rows.FormatMadeCardSaid :=
  Claim7.holds_tied_plain_at .later [] _ _ _ _ FormatMade.said (fun _ h => by cases h) (by kernel_rfl) (fun _ h => by cases h) formatMade_row_tie rfl ⟨rfl, rfl⟩ (by kernel_rfl) rfl FormatMade.plain (by kernel_rfl)
end Go.Proofs.YtlehfgdhebapeaaDoor
