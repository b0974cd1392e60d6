/- The law FormatProgramRoundTrip returns true of every list of bytes: the text of a shaped program is parsed as that program, apart from lines. Conditions: none beside the row's own. -/
import Derived.Test.YtlehfgdhebapeaaGreatDoorLz
import Derived.Test.YtlehfgdhebapeaaGreatDoorCb
set_option linter.all false
namespace Go.Proofs.YtlehfgdhebapeaaGreatDoor
open Go.ChangeShapes Go.WideShapes Go.ChangeAt Go.RowKit KM
namespace FormatProgramRoundTrip
set_option maxRecDepth 100000 in
theorem contract (H : Type) (enc : TypeId × Value → H) (W : World) (base : Nat) (args : Array Value) (ds gs : List (DataW H)) (before : List MemPlace)
    (hval : ∀ (j : Nat) t v, Tryz.f3.params[j]? = some t → args[j]? = some v → Value.okWide Tryz.prog W .any base t v)
    (hW : DataW.Whole enc Tryz.prog Tryz.f3.params.toList Rows.formatProgramRoundTripSpec.vars false W args.toList ds gs before) (hL : laidMetH Tryz.prog Rows.formatProgramRoundTripRow.laid W) (hS : W.ShapedOpen Tryz.prog) :
    Calls Tryz.prog 3 args W fun e W' => ∃ v, e = .returned v ∧ Rows.formatProgramRoundTripSpec.post enc Tryz.prog Tryz.f3 false true false false W args v W' := by
  have hW' := hW
  obtain ⟨p, q, hA0, hV, rfl, hfz, hnd⟩ := hW
  have hA : DataW.TrodAll enc Tryz.prog W 0 (fun _ => true) true Tryz.f3.params.toList args.toList ds p := hA0
  rw [Tryz.params3] at hA hval
  obtain ⟨v0, vs0, d0, ds0, p0, q0, hargs, rfl, rfl, h0, r0⟩ := trodAll_cons hA
  obtain ⟨rfl, rfl, rfl⟩ := trodAll_nil r0
  obtain rfl : args = #[v0] := by cases args; simp_all
  obtain ⟨rfl, rfl⟩ := trodVars_none hV
  obtain ⟨f0, h0⟩ := h0
  obtain ⟨pc0, R0⟩ := trod_row enc Tryz.prog W _ _ [22, 5] (by kernel_rfl) f0 22 _ d0 _ (by decide) h0
  obtain ⟨a0, len0, cap0, rfl⟩ := okWide_slice Tryz.underlying22 (hval 0 _ v0 rfl rfl)
  obtain ⟨z0, t0, x0, rfl, hx0⟩ := bts_of R0.typ
  obtain ⟨y0, hy0, e0⟩ := arg_cell R0 rfl
  cases hy0
  obtain ⟨m, hT⟩ := tabs_of (show laidMet Tryz.prog Rows.formatProgramRoundTripRow.laid W from hL) hS (by simp [Rows.formatProgramRoundTripRow]) (by simp [Rows.formatProgramRoundTripRow]) (by simp [Rows.formatProgramRoundTripRow]) (by simp [Rows.formatProgramRoundTripRow]) (by simp [Rows.formatProgramRoundTripRow])
  refine (law_calls (P := Tryz.prog) (G := GT m) (w := W) hTT hST hPrG (vs := [SL z0 t0 (byteRows x0)]) (us := [_]) (lawProgRT_fn z0 t0 x0 hx0) hT rfl ?_).mono ?_
  · intro j hj
    match j, hj with
    | 0, _ => exact e0
  · rintro e W' ⟨rfl, hbl⟩
    exact ⟨_, rfl, law_post hW' (by kernel_rfl) (by kernel_rfl) rfl rfl Tryz.underlying4 rfl rfl rfl hbl⟩
def argsW : Array Value := #[.slice none 0 0]
theorem laid_met (os : Os) : laidMet Tryz.prog Rows.formatProgramRoundTripRow.laid ((laidWorld os).forCall (fun _ _ => 0) ⟨#[], argsW, []⟩).memory :=
  laidMet_of_run' 8 (by kernel_rfl) (by kernel_rfl)
theorem reads (os : Os) {H : Type} (enc : TypeId × Value → H) : ∃ places, DataW.whole enc Tryz.prog ((laidWorld os).forCall (fun _ _ => 0) ⟨#[], argsW, []⟩).memory Tryz.f3.params.toList Rows.formatProgramRoundTripSpec.vars false argsW.toList 8 = some ([.nil], [], places) :=
  ⟨[], by kernel_rfl⟩
set_option maxRecDepth 100000 in
theorem lifted (os : Os) (started : os.Started) (H : Type) (enc : TypeId × Value → H) (F : Stop.Interp) :
    ReturnsInHanded {} Tryz.checked os 3 .any ((OpenSpec.ofChange Rows.formatProgramRoundTripSpec).preRow enc Tryz.prog Tryz.f3 Rows.formatProgramRoundTripRow.domain false Rows.formatProgramRoundTripRow.laid) (((OpenSpec.ofChange Rows.formatProgramRoundTripSpec).at F).post enc Tryz.prog Tryz.f3 false true false false) := by
  obtain ⟨places, hx⟩ := reads os enc
  refine returnsInHanded_of_row (C := Tryz.checked) (s := OpenSpec.ofChange Rows.formatProgramRoundTripSpec) ownKnob_none started (by kernel_rfl) Tryz.func3
    (witness_row_at (enc := enc) (C := Tryz.checked) false (laidWorld os) argsW rfl (by kernel_rfl) (by kernel_rfl) (by kernel_rfl)
      (OpenSpec.preRow_of_cond 8 hx (by kernel_rfl) (fun k hk => by cases hk) (by kernel_rfl) (laid_met os))) ?_
  intro W base args ds gs before hval hW _ _ _ hL hS _
  exact contract H enc W base args ds gs before hval hW hL hS
set_option maxRecDepth 100000 in
set_option maxHeartbeats 4000000 in
theorem closed : joinedFacts Tryz.prog 3 Tryz.f3 (OpenSpec.ofChange Rows.formatProgramRoundTripSpec).bare Rows.formatProgramRoundTripRow = true := by
  unfold joinedFacts
  iterate 31 (refine and_t ?_ ?_)
  all_goals as_aux_lemma => kernel_rfl
theorem said : Rows.FormatProgramRoundTripSaid :=
  OpenClaim.holds_of_cond 3 Tryz.f3 rfl rfl rfl rfl rfl rfl rfl ⟨rfl, rfl, rfl, rfl, rfl⟩ rfl rfl rfl rfl rfl (by as_aux_lemma => kernel_rfl) Tryz.func3 closed
    (of_decide_eq_true (by kernel_rfl)) (by unfold Func.isWrapper; first | (rw [if_pos (by decide +kernel)]; kernel_rfl) | (rw [if_neg (by decide +kernel)]; exact ⟨rfl, rfl⟩))
    (fun os started H enc _ F => by rw [OpenClaim.pre_eq_preRow]; exact lifted os started H enc F)
theorem plain (f : FuncId) (fn : Func) (hf : Tryz.pinned.checked.prog.funcNamed "interleave/interleavelaw03.FormatProgramRoundTrip" = some f) (hfn : Tryz.pinned.checked.prog.funcs[f]? = some fn) :
    true = Tryz.pinned.checked.prog.looks [] ∧ ∀ (j : Nat) t, fn.params[j]? = some t → Tryz.pinned.checked.prog.wantsStandIn t = false := by
  obtain rfl : f = 3 := Option.some.inj ((show Tryz.prog.funcNamed "interleave/interleavelaw03.FormatProgramRoundTrip" = some 3 by kernel_rfl).symm.trans hf) |>.symm
  obtain rfl : fn = Tryz.f3 := (Option.some.inj (Tryz.func3.symm.trans hfn)).symm
  refine ⟨by kernel_rfl, fun j t ht => ?_⟩
  rw [Tryz.params3] at ht
  have ht' := Array.mem_of_getElem? ht
  simp at ht'
  subst ht'
  exact (show Tryz.prog.wantsStandIn 22 = false by kernel_rfl)
end FormatProgramRoundTrip
/-- THE CARD: FormatProgramRoundTrip is true of every input. -/
theorem formatProgramRoundTrip_card : Rows.FormatProgramRoundTripCardSaid :=
  Claim7.holds_tied_plain_at .later [] _ _ _ _ FormatProgramRoundTrip.said (fun _ h => by cases h) (by kernel_rfl) (fun _ h => by cases h) formatProgramRoundTrip_row_tie rfl ⟨rfl, rfl⟩ (by kernel_rfl) rfl FormatProgramRoundTrip.plain (by kernel_rfl)
end Go.Proofs.YtlehfgdhebapeaaGreatDoor
