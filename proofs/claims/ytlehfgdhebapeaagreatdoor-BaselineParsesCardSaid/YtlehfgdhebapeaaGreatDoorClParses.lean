/- The law BaselineParses returns true of every string: baseline.Parse and the reference interleaveref39.ParseBaseline read every text alike. Conditions: none beside the row's own. -/
import Derived.Test.YtlehfgdhebapeaaGreatDoorZi
import Derived.Test.YtlehfgdhebapeaaGreatDoorCd
set_option linter.all false
namespace Go.Proofs.YtlehfgdhebapeaaGreatDoor
open Go.ChangeShapes Go.WideShapes Go.ChangeAt Go.RowKit KM
namespace BaselineParses
set_option maxRecDepth 100000 in
theorem contract (H : Type) (enc : TypeId × Value → H) (W : World) (base : Nat) (args : Array Value) (ds gs : List (DataW H)) (before : List MemPlace)
    (hval : ∀ (j : Nat) t v, Tryz.f7.params[j]? = some t → args[j]? = some v → Value.okWide Tryz.prog W .any base t v)
    (hW : DataW.Whole enc Tryz.prog Tryz.f7.params.toList Rows.baselineParsesSpec.vars false W args.toList ds gs before) (hL : laidMetH Tryz.prog Rows.baselineParsesRow.laid W) (hS : W.ShapedOpen Tryz.prog) :
    Calls Tryz.prog 7 args W fun e W' => ∃ v, e = .returned v ∧ Rows.baselineParsesSpec.post enc Tryz.prog Tryz.f7 false true false false W args v W' := by
  have hW' := hW
  obtain ⟨p, q, hA0, hV, rfl, hfz, hnd⟩ := hW
  have hA : DataW.TrodAll enc Tryz.prog W 0 (fun _ => true) true Tryz.f7.params.toList args.toList ds p := hA0
  rw [Tryz.params7] at hA hval
  obtain ⟨v0, vs0, d0, ds0, p0, q0, hargs, rfl, rfl, h0, r0⟩ := trodAll_cons hA
  obtain ⟨rfl, rfl, rfl⟩ := trodAll_nil r0
  obtain rfl : args = #[v0] := by cases args; simp_all
  obtain ⟨rfl, rfl⟩ := trodVars_none hV
  obtain ⟨f0, h0⟩ := h0
  obtain ⟨pc0, R0⟩ := trod_row enc Tryz.prog W _ _ [9] (by kernel_rfl) f0 9 _ d0 _ (by decide) h0
  obtain ⟨n0, rfl⟩ := okWide_string Tryz.underlying9 (hval 0 _ v0 rfl rfl)
  obtain ⟨x0, rfl, hx0⟩ := hasT_str Tryz.underlying9 R0.typ
  obtain ⟨y0, hy0, e0⟩ := arg_cell R0 rfl
  cases hy0
  obtain ⟨m, hT⟩ := tabs_of (show laidMet Tryz.prog Rows.baselineParsesRow.laid W from hL) hS (by simp [Rows.baselineParsesRow]) (by simp [Rows.baselineParsesRow]) (by simp [Rows.baselineParsesRow]) (by simp [Rows.baselineParsesRow]) (by simp [Rows.baselineParsesRow])
  refine (law_calls (P := Tryz.prog) (G := GT m) (w := W) hTT hST hPT (vs := [.str x0.data.toList]) (us := [_]) (lawParses_fn x0.data.toList) hT rfl ?_).mono ?_
  · intro j hj
    match j, hj with
    | 0, _ => exact e0
  · rintro e W' ⟨rfl, hbl⟩
    exact ⟨_, rfl, law_post hW' (by kernel_rfl) (by kernel_rfl) rfl rfl Tryz.underlying4 rfl rfl rfl hbl⟩
def argsW : Array Value := #[.string ⟨#[]⟩]
theorem laid_met (os : Os) : laidMet Tryz.prog Rows.baselineParsesRow.laid ((laidWorld os).forCall (fun _ _ => 0) ⟨#[], argsW, []⟩).memory :=
  laidMet_of_run' 8 (by kernel_rfl) (by kernel_rfl)
theorem reads (os : Os) {H : Type} (enc : TypeId × Value → H) : ∃ places, DataW.whole enc Tryz.prog ((laidWorld os).forCall (fun _ _ => 0) ⟨#[], argsW, []⟩).memory Tryz.f7.params.toList Rows.baselineParsesSpec.vars false argsW.toList 8 = some ([.lit (.string [])], [], places) :=
  ⟨[], by kernel_rfl⟩
set_option maxRecDepth 100000 in
theorem lifted (os : Os) (started : os.Started) (H : Type) (enc : TypeId × Value → H) (F : Stop.Interp) :
    ReturnsInHanded {} Tryz.checked os 7 .any ((OpenSpec.ofChange Rows.baselineParsesSpec).preRow enc Tryz.prog Tryz.f7 Rows.baselineParsesRow.domain false Rows.baselineParsesRow.laid) (((OpenSpec.ofChange Rows.baselineParsesSpec).at F).post enc Tryz.prog Tryz.f7 false true false false) := by
  obtain ⟨places, hx⟩ := reads os enc
  refine returnsInHanded_of_row (C := Tryz.checked) (s := OpenSpec.ofChange Rows.baselineParsesSpec) ownKnob_none started (by kernel_rfl) Tryz.func7
    (witness_row_at (enc := enc) (C := Tryz.checked) false (laidWorld os) argsW rfl (by kernel_rfl) (by kernel_rfl) (by kernel_rfl)
      (OpenSpec.preRow_of_cond 8 hx (by kernel_rfl) (fun k hk => by cases hk) (by kernel_rfl) (laid_met os))) ?_
  intro W base args ds gs before hval hW _ _ _ hL hS _
  exact contract H enc W base args ds gs before hval hW hL hS
set_option maxRecDepth 100000 in
set_option maxHeartbeats 4000000 in
theorem closed : joinedFacts Tryz.prog 7 Tryz.f7 (OpenSpec.ofChange Rows.baselineParsesSpec).bare Rows.baselineParsesRow = true := by
  unfold joinedFacts
  iterate 31 (refine and_t ?_ ?_)
  all_goals as_aux_lemma => kernel_rfl
theorem said : Rows.BaselineParsesSaid :=
  OpenClaim.holds_of_cond 7 Tryz.f7 rfl rfl rfl rfl rfl rfl rfl ⟨rfl, rfl, rfl, rfl, rfl⟩ rfl rfl rfl rfl rfl (by as_aux_lemma => kernel_rfl) Tryz.func7 closed
    (of_decide_eq_true (by kernel_rfl)) (by unfold Func.isWrapper; first | (rw [if_pos (by decide +kernel)]; kernel_rfl) | (rw [if_neg (by decide +kernel)]; exact ⟨rfl, rfl⟩))
    (fun os started H enc _ F => by rw [OpenClaim.pre_eq_preRow]; exact lifted os started H enc F)
theorem plain (f : FuncId) (fn : Func) (hf : Tryz.pinned.checked.prog.funcNamed "interleave/interleavelaw40.BaselineParses" = some f) (hfn : Tryz.pinned.checked.prog.funcs[f]? = some fn) :
    true = Tryz.pinned.checked.prog.looks [] ∧ ∀ (j : Nat) t, fn.params[j]? = some t → Tryz.pinned.checked.prog.wantsStandIn t = false := by
  obtain rfl : f = 7 := Option.some.inj ((show Tryz.prog.funcNamed "interleave/interleavelaw40.BaselineParses" = some 7 by kernel_rfl).symm.trans hf) |>.symm
  obtain rfl : fn = Tryz.f7 := (Option.some.inj (Tryz.func7.symm.trans hfn)).symm
  refine ⟨by kernel_rfl, fun j t ht => ?_⟩
  rw [Tryz.params7] at ht
  have ht' := Array.mem_of_getElem? ht
  simp at ht'
  subst ht'
  exact (show Tryz.prog.wantsStandIn 9 = false by kernel_rfl)
end BaselineParses
/-- THE CARD: BaselineParses is true of every input. -/
theorem baselineParses_card : Rows.BaselineParsesCardSaid :=
  Claim7.holds_tied_plain_at .later [] _ _ _ _ BaselineParses.said (fun _ h => by cases h) (by kernel_rfl) (fun _ h => by cases h) baselineParses_row_tie rfl ⟨rfl, rfl⟩ (by kernel_rfl) rfl BaselineParses.plain (by kernel_rfl)
end Go.Proofs.YtlehfgdhebapeaaGreatDoor
