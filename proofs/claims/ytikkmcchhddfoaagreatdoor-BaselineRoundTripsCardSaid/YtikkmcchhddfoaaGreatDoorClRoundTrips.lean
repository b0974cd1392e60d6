/- The law BaselineRoundTrips returns true of every list of items and every number: a baseline comes back from its bytes and from its text. Conditions: none beside the row's own. -/
import Derived.Test.YtikkmcchhddfoaaGreatDoorDo
import Derived.Test.YtikkmcchhddfoaaGreatDoorCb
set_option linter.all false
namespace Go.Proofs.YtikkmcchhddfoaaGreatDoor
open Go.ChangeShapes Go.WideShapes Go.ChangeAt Go.RowKit KM
namespace BaselineRoundTrips
set_option maxRecDepth 100000 in
theorem contract (H : Type) (enc : TypeId × Value → H) (W : World) (base : Nat) (args : Array Value) (ds gs : List (DataW H)) (before : List MemPlace)
    (hval : ∀ (j : Nat) t v, Tryz.f10.params[j]? = some t → args[j]? = some v → Value.okWide Tryz.prog W .any base t v)
    (hW : DataW.Whole enc Tryz.prog Tryz.f10.params.toList Rows.baselineRoundTripsSpec.vars false W args.toList ds gs before) (hL : laidMetH Tryz.prog Rows.baselineRoundTripsRow.laid W) (hS : W.ShapedOpen Tryz.prog) :
    Calls Tryz.prog 10 args W fun e W' => ∃ v, e = .returned v ∧ Rows.baselineRoundTripsSpec.post enc Tryz.prog Tryz.f10 false true false false W args v W' := by
  have hW' := hW
  obtain ⟨p, q, hA0, hV, rfl, hfz, hnd⟩ := hW
  have hA : DataW.TrodAll enc Tryz.prog W 0 (fun _ => true) true Tryz.f10.params.toList args.toList ds p := hA0
  rw [Tryz.params10] at hA hval
  obtain ⟨v0, vs0, d0, ds0, p0, q0, hargs, rfl, rfl, h0, r0⟩ := trodAll_cons hA
  obtain ⟨v1, vs1, d1, ds1, p1, q1, rfl, rfl, rfl, h1, r1⟩ := trodAll_cons r0
  obtain ⟨rfl, rfl, rfl⟩ := trodAll_nil r1
  obtain rfl : args = #[v0, v1] := by cases args; simp_all
  obtain ⟨rfl, rfl⟩ := trodVars_none hV
  obtain ⟨f0, h0⟩ := h0
  obtain ⟨pc0, R0⟩ := trod_row enc Tryz.prog W _ _ [65, 204, 130, 5] (by kernel_rfl) f0 65 _ d0 _ (by decide) h0
  obtain ⟨a0, len0, cap0, rfl⟩ := okWide_slice Tryz.underlying65 (hval 0 _ v0 rfl rfl)
  obtain ⟨z0, t0, x0, rfl, hx0⟩ := items_of R0.typ
  obtain ⟨y0, hy0, e0⟩ := arg_cell R0 rfl
  cases hy0
  obtain ⟨f1, h1⟩ := h1
  obtain ⟨pc1, R1⟩ := trod_row enc Tryz.prog W _ _ [5] (by kernel_rfl) f1 5 _ d1 _ (by decide) h1
  obtain ⟨n1, rfl⟩ := okWide_int Tryz.underlying5 (hval 1 _ v1 rfl rfl)
  obtain ⟨x1, hx1, rfl⟩ := u8_of Tryz.underlying5 R1.typ
  obtain ⟨y1, hy1, e1⟩ := arg_cell R1 rfl
  cases hy1
  obtain ⟨m, hT⟩ := tabs_of (show laidMet Tryz.prog Rows.baselineRoundTripsRow.laid W from hL) hS (by simp [Rows.baselineRoundTripsRow]) (by simp [Rows.baselineRoundTripsRow]) (by simp [Rows.baselineRoundTripsRow]) (by simp [Rows.baselineRoundTripsRow]) (by simp [Rows.baselineRoundTripsRow])
  refine (law_calls (P := Tryz.prog) (G := GT m) (w := W) hTT hST hP2 (vs := [SL z0 t0 (x0.map KM.Item.row), .int .u8 x1]) (us := [_, _]) (lawRoundTrips_fn z0 t0 x0 x1 hx1 hx0.1 hx0.2) hT rfl ?_).mono ?_
  · intro j hj
    match j, hj with
    | 0, _ => exact e0
    | 1, _ => exact e1
  · rintro e W' ⟨rfl, hbl⟩
    exact ⟨_, rfl, law_post hW' (by kernel_rfl) (by kernel_rfl) rfl rfl Tryz.underlying4 rfl rfl rfl hbl⟩
def argsW : Array Value := #[.slice none 0 0, .int .u8 0]
theorem laid_met (os : Os) : laidMet Tryz.prog Rows.baselineRoundTripsRow.laid ((laidWorld os).forCall (fun _ _ => 0) ⟨#[], argsW, []⟩).memory :=
  laidMet_of_run' 8 (by kernel_rfl) (by kernel_rfl)
theorem reads (os : Os) {H : Type} (enc : TypeId × Value → H) : ∃ places, DataW.whole enc Tryz.prog ((laidWorld os).forCall (fun _ _ => 0) ⟨#[], argsW, []⟩).memory Tryz.f10.params.toList Rows.baselineRoundTripsSpec.vars false argsW.toList 8 = some ([.nil, .lit (.int .u8 0)], [], places) :=
  ⟨[], by kernel_rfl⟩
set_option maxRecDepth 100000 in
theorem lifted (os : Os) (started : os.Started) (H : Type) (enc : TypeId × Value → H) (F : Stop.Interp) :
    ReturnsInHanded {} Tryz.checked os 10 .any ((OpenSpec.ofChange Rows.baselineRoundTripsSpec).preRow enc Tryz.prog Tryz.f10 Rows.baselineRoundTripsRow.domain false Rows.baselineRoundTripsRow.laid) (((OpenSpec.ofChange Rows.baselineRoundTripsSpec).at F).post enc Tryz.prog Tryz.f10 false true false false) := by
  obtain ⟨places, hx⟩ := reads os enc
  refine returnsInHanded_of_row (C := Tryz.checked) (s := OpenSpec.ofChange Rows.baselineRoundTripsSpec) ownKnob_none started (by kernel_rfl) Tryz.func10
    (witness_row_at (enc := enc) (C := Tryz.checked) false (laidWorld os) argsW rfl (by kernel_rfl) (by kernel_rfl) (by kernel_rfl)
      (OpenSpec.preRow_of_cond 8 hx (by kernel_rfl) (fun k hk => by cases hk) (by kernel_rfl) (laid_met os))) ?_
  intro W base args ds gs before hval hW _ _ _ hL hS _
  exact contract H enc W base args ds gs before hval hW hL hS
set_option maxRecDepth 100000 in
set_option maxHeartbeats 4000000 in
theorem closed : joinedFacts Tryz.prog 10 Tryz.f10 (OpenSpec.ofChange Rows.baselineRoundTripsSpec).bare Rows.baselineRoundTripsRow = true := by
  unfold joinedFacts
  iterate 31 (refine and_t ?_ ?_)
  all_goals as_aux_lemma => kernel_rfl
theorem said : Rows.BaselineRoundTripsSaid :=
  OpenClaim.holds_of_cond 10 Tryz.f10 rfl rfl rfl rfl rfl rfl rfl ⟨rfl, rfl, rfl, rfl, rfl⟩ rfl rfl rfl rfl rfl (by as_aux_lemma => kernel_rfl) Tryz.func10 closed
    (of_decide_eq_true (by kernel_rfl)) (by unfold Func.isWrapper; first | (rw [if_pos (by decide +kernel)]; kernel_rfl) | (rw [if_neg (by decide +kernel)]; exact ⟨rfl, rfl⟩))
    (fun os started H enc _ F => by rw [OpenClaim.pre_eq_preRow]; exact lifted os started H enc F)
theorem plain (f : FuncId) (fn : Func) (hf : Tryz.pinned.checked.prog.funcNamed "interleave/interleavelaw40.BaselineRoundTrips" = some f) (hfn : Tryz.pinned.checked.prog.funcs[f]? = some fn) :
    true = Tryz.pinned.checked.prog.looks [] ∧ ∀ (j : Nat) t, fn.params[j]? = some t → Tryz.pinned.checked.prog.wantsStandIn t = false := by
  obtain rfl : f = 10 := Option.some.inj ((show Tryz.prog.funcNamed "interleave/interleavelaw40.BaselineRoundTrips" = some 10 by kernel_rfl).symm.trans hf) |>.symm
  obtain rfl : fn = Tryz.f10 := (Option.some.inj (Tryz.func10.symm.trans hfn)).symm
  refine ⟨by kernel_rfl, fun j t ht => ?_⟩
  rw [Tryz.params10] at ht
  have ht' := Array.mem_of_getElem? ht
  simp at ht'
  have : t = 65 ∨ t = 5 := by first | exact ht' | omega | (rcases ht' with h | h <;> simp [h])
  rcases this with rfl | rfl
  · exact (show Tryz.prog.wantsStandIn 65 = false by kernel_rfl)
  · exact (show Tryz.prog.wantsStandIn 5 = false by kernel_rfl)
end BaselineRoundTrips
/-- THE CARD: BaselineRoundTrips is true of every input. -/
theorem baselineRoundTrips_card : Rows.BaselineRoundTripsCardSaid :=
  Claim7.holds_tied_plain_at .later [] _ _ _ _ BaselineRoundTrips.said (fun _ h => by cases h) (by kernel_rfl) (fun _ h => by cases h) baselineRoundTrips_row_tie rfl ⟨rfl, rfl⟩ (by kernel_rfl) rfl BaselineRoundTrips.plain (by kernel_rfl)
end Go.Proofs.YtikkmcchhddfoaaGreatDoor
