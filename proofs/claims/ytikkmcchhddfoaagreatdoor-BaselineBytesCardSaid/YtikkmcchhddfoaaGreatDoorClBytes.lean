/- The law BaselineBytes returns true of every list of items, all numbers and every bool: baseline.Decode and the reference interleaveref39.Decode read the bytes of a baseline alike, also behind one change. Conditions: none beside the row's own. -/
import Derived.Test.YtikkmcchhddfoaaGreatDoorDn
import Derived.Test.YtikkmcchhddfoaaGreatDoorCb
set_option linter.all false
namespace Go.Proofs.YtikkmcchhddfoaaGreatDoor
open Go.ChangeShapes Go.WideShapes Go.ChangeAt Go.RowKit KM
namespace BaselineBytes
set_option maxRecDepth 100000 in
theorem contract (H : Type) (enc : TypeId × Value → H) (W : World) (base : Nat) (args : Array Value) (ds gs : List (DataW H)) (before : List MemPlace)
    (hval : ∀ (j : Nat) t v, Tryz.f8.params[j]? = some t → args[j]? = some v → Value.okWide Tryz.prog W .any base t v)
    (hW : DataW.Whole enc Tryz.prog Tryz.f8.params.toList Rows.baselineBytesSpec.vars false W args.toList ds gs before) (hL : laidMetH Tryz.prog Rows.baselineBytesRow.laid W) (hS : W.ShapedOpen Tryz.prog) :
    Calls Tryz.prog 8 args W fun e W' => ∃ v, e = .returned v ∧ Rows.baselineBytesSpec.post enc Tryz.prog Tryz.f8 false true false false W args v W' := by
  have hW' := hW
  obtain ⟨p, q, hA0, hV, rfl, hfz, hnd⟩ := hW
  have hA : DataW.TrodAll enc Tryz.prog W 0 (fun _ => true) true Tryz.f8.params.toList args.toList ds p := hA0
  rw [Tryz.params8] at hA hval
  obtain ⟨v0, vs0, d0, ds0, p0, q0, hargs, rfl, rfl, h0, r0⟩ := trodAll_cons hA
  obtain ⟨v1, vs1, d1, ds1, p1, q1, rfl, rfl, rfl, h1, r1⟩ := trodAll_cons r0
  obtain ⟨v2, vs2, d2, ds2, p2, q2, rfl, rfl, rfl, h2, r2⟩ := trodAll_cons r1
  obtain ⟨v3, vs3, d3, ds3, p3, q3, rfl, rfl, rfl, h3, r3⟩ := trodAll_cons r2
  obtain ⟨v4, vs4, d4, ds4, p4, q4, rfl, rfl, rfl, h4, r4⟩ := trodAll_cons r3
  obtain ⟨v5, vs5, d5, ds5, p5, q5, rfl, rfl, rfl, h5, r5⟩ := trodAll_cons r4
  obtain ⟨rfl, rfl, rfl⟩ := trodAll_nil r5
  obtain rfl : args = #[v0, v1, v2, v3, v4, v5] := by cases args; simp_all
  obtain ⟨rfl, rfl⟩ := trodVars_none hV
  obtain ⟨f0, h0⟩ := h0
  obtain ⟨pc0, R0⟩ := trod_row enc Tryz.prog W _ _ [65, 204, 130, 5] (by kernel_rfl) f0 65 _ d0 _ (by decide) h0
  obtain ⟨a0, len0, cap0, rfl⟩ := okWide_slice Tryz.underlying65 (hval 0 _ v0 rfl rfl)
  obtain ⟨z0, t0, x0, rfl, hx0⟩ := items_of R0.typ
  obtain ⟨y0, hy0, e0⟩ := arg_cell R0 rfl
  cases hy0
  obtain ⟨f1, h1⟩ := h1
  obtain ⟨pc1, R1⟩ := trod_row enc Tryz.prog W _ _ [5] (by kernel_rfl) f1 5 _ d1 _ (by decide) h1
  obtain ⟨n1, rfl⟩ := okWide_int Tryz.underlying5 (hval 1 _ v1 rfl rfl)
  obtain ⟨x1, hx1, rfl⟩ := u8_of Tryz.underlying5 R1.typ
  obtain ⟨y1, hy1, e1⟩ := arg_cell R1 rfl
  cases hy1
  obtain ⟨f2, h2⟩ := h2
  obtain ⟨pc2, R2⟩ := trod_row enc Tryz.prog W _ _ [34] (by kernel_rfl) f2 34 _ d2 _ (by decide) h2
  obtain ⟨n2, rfl⟩ := okWide_int Tryz.underlying34 (hval 2 _ v2 rfl rfl)
  obtain ⟨x2, hx2, rfl⟩ := u16_of Tryz.underlying34 R2.typ
  obtain ⟨y2, hy2, e2⟩ := arg_cell R2 rfl
  cases hy2
  obtain ⟨f3, h3⟩ := h3
  obtain ⟨pc3, R3⟩ := trod_row enc Tryz.prog W _ _ [34] (by kernel_rfl) f3 34 _ d3 _ (by decide) h3
  obtain ⟨n3, rfl⟩ := okWide_int Tryz.underlying34 (hval 3 _ v3 rfl rfl)
  obtain ⟨x3, hx3, rfl⟩ := u16_of Tryz.underlying34 R3.typ
  obtain ⟨y3, hy3, e3⟩ := arg_cell R3 rfl
  cases hy3
  obtain ⟨f4, h4⟩ := h4
  obtain ⟨pc4, R4⟩ := trod_row enc Tryz.prog W _ _ [5] (by kernel_rfl) f4 5 _ d4 _ (by decide) h4
  obtain ⟨n4, rfl⟩ := okWide_int Tryz.underlying5 (hval 4 _ v4 rfl rfl)
  obtain ⟨x4, hx4, rfl⟩ := u8_of Tryz.underlying5 R4.typ
  obtain ⟨y4, hy4, e4⟩ := arg_cell R4 rfl
  cases hy4
  obtain ⟨f5, h5⟩ := h5
  obtain ⟨pc5, R5⟩ := trod_row enc Tryz.prog W _ _ [4] (by kernel_rfl) f5 4 _ d5 _ (by decide) h5
  obtain ⟨n5, rfl⟩ := okWide_bool Tryz.underlying4 (hval 5 _ v5 rfl rfl)
  obtain ⟨x5, rfl⟩ := hasT_bool Tryz.underlying4 R5.typ
  obtain ⟨y5, hy5, e5⟩ := arg_cell R5 rfl
  cases hy5
  obtain ⟨m, hT⟩ := tabs_of (show laidMet Tryz.prog Rows.baselineBytesRow.laid W from hL) hS (by simp [Rows.baselineBytesRow]) (by simp [Rows.baselineBytesRow]) (by simp [Rows.baselineBytesRow]) (by simp [Rows.baselineBytesRow]) (by simp [Rows.baselineBytesRow])
  refine (law_calls (P := Tryz.prog) (G := GT m) (w := W) hTT hST hP2 (vs := [SL z0 t0 (x0.map KM.Item.row), .int .u8 x1, .int .u16 x2, .int .u16 x3, .int .u8 x4, .bool x5]) (us := [_, _, _, _, _, _]) (lawBytes_fn z0 t0 x0 x1 x2 x3 x4 x5 hx1 hx2 hx4 hx0.1 hx0.2) hT rfl ?_).mono ?_
  · intro j hj
    match j, hj with
    | 0, _ => exact e0
    | 1, _ => exact e1
    | 2, _ => exact e2
    | 3, _ => exact e3
    | 4, _ => exact e4
    | 5, _ => exact e5
  · rintro e W' ⟨rfl, hbl⟩
    exact ⟨_, rfl, law_post hW' (by kernel_rfl) (by kernel_rfl) rfl rfl Tryz.underlying4 rfl rfl rfl hbl⟩
def argsW : Array Value := #[.slice none 0 0, .int .u8 0, .int .u16 0, .int .u16 0, .int .u8 0, .bool false]
theorem laid_met (os : Os) : laidMet Tryz.prog Rows.baselineBytesRow.laid ((laidWorld os).forCall (fun _ _ => 0) ⟨#[], argsW, []⟩).memory :=
  laidMet_of_run' 8 (by kernel_rfl) (by kernel_rfl)
theorem reads (os : Os) {H : Type} (enc : TypeId × Value → H) : ∃ places, DataW.whole enc Tryz.prog ((laidWorld os).forCall (fun _ _ => 0) ⟨#[], argsW, []⟩).memory Tryz.f8.params.toList Rows.baselineBytesSpec.vars false argsW.toList 8 = some ([.nil, .lit (.int .u8 0), .lit (.int .u16 0), .lit (.int .u16 0), .lit (.int .u8 0), .lit (.bool false)], [], places) :=
  ⟨[], by kernel_rfl⟩
set_option maxRecDepth 100000 in
theorem lifted (os : Os) (started : os.Started) (H : Type) (enc : TypeId × Value → H) (F : Stop.Interp) :
    ReturnsInHanded {} Tryz.checked os 8 .any ((OpenSpec.ofChange Rows.baselineBytesSpec).preRow enc Tryz.prog Tryz.f8 Rows.baselineBytesRow.domain false Rows.baselineBytesRow.laid) (((OpenSpec.ofChange Rows.baselineBytesSpec).at F).post enc Tryz.prog Tryz.f8 false true false false) := by
  obtain ⟨places, hx⟩ := reads os enc
  refine returnsInHanded_of_row (C := Tryz.checked) (s := OpenSpec.ofChange Rows.baselineBytesSpec) ownKnob_none started (by kernel_rfl) Tryz.func8
    (witness_row_at (enc := enc) (C := Tryz.checked) false (laidWorld os) argsW rfl (by kernel_rfl) (by kernel_rfl) (by kernel_rfl)
      (OpenSpec.preRow_of_cond 8 hx (by kernel_rfl) (fun k hk => by cases hk) (by kernel_rfl) (laid_met os))) ?_
  intro W base args ds gs before hval hW _ _ _ hL hS _
  exact contract H enc W base args ds gs before hval hW hL hS
set_option maxRecDepth 100000 in
set_option maxHeartbeats 4000000 in
theorem closed : joinedFacts Tryz.prog 8 Tryz.f8 (OpenSpec.ofChange Rows.baselineBytesSpec).bare Rows.baselineBytesRow = true := by
  unfold joinedFacts
  iterate 31 (refine and_t ?_ ?_)
  all_goals as_aux_lemma => kernel_rfl
theorem said : Rows.BaselineBytesSaid :=
  OpenClaim.holds_of_cond 8 Tryz.f8 rfl rfl rfl rfl rfl rfl rfl ⟨rfl, rfl, rfl, rfl, rfl⟩ rfl rfl rfl rfl rfl (by as_aux_lemma => kernel_rfl) Tryz.func8 closed
    (of_decide_eq_true (by kernel_rfl)) (by unfold Func.isWrapper; first | (rw [if_pos (by decide +kernel)]; kernel_rfl) | (rw [if_neg (by decide +kernel)]; exact ⟨rfl, rfl⟩))
    (fun os started H enc _ F => by rw [OpenClaim.pre_eq_preRow]; exact lifted os started H enc F)
theorem plain (f : FuncId) (fn : Func) (hf : Tryz.pinned.checked.prog.funcNamed "interleave/interleavelaw40.BaselineBytes" = some f) (hfn : Tryz.pinned.checked.prog.funcs[f]? = some fn) :
    true = Tryz.pinned.checked.prog.looks [] ∧ ∀ (j : Nat) t, fn.params[j]? = some t → Tryz.pinned.checked.prog.wantsStandIn t = false := by
  obtain rfl : f = 8 := Option.some.inj ((show Tryz.prog.funcNamed "interleave/interleavelaw40.BaselineBytes" = some 8 by kernel_rfl).symm.trans hf) |>.symm
  obtain rfl : fn = Tryz.f8 := (Option.some.inj (Tryz.func8.symm.trans hfn)).symm
  refine ⟨by kernel_rfl, fun j t ht => ?_⟩
  rw [Tryz.params8] at ht
  have ht' := Array.mem_of_getElem? ht
  simp at ht'
  have : t = 65 ∨ t = 5 ∨ t = 34 ∨ t = 4 := by first | exact ht' | omega | (rcases ht' with h | h <;> simp [h]) | (rcases ht' with h | h | h <;> simp [h]) | (rcases ht' with h | h | h | h <;> simp [h]) | (rcases ht' with h | h | h | h | h <;> simp [h]) | (rcases ht' with h | h | h | h | h | h <;> simp [h])
  rcases this with rfl | rfl | rfl | rfl
  · exact (show Tryz.prog.wantsStandIn 65 = false by kernel_rfl)
  · exact (show Tryz.prog.wantsStandIn 5 = false by kernel_rfl)
  · exact (show Tryz.prog.wantsStandIn 34 = false by kernel_rfl)
  · exact (show Tryz.prog.wantsStandIn 4 = false by kernel_rfl)
end BaselineBytes
/-- THE CARD: BaselineBytes is true of every input. -/
theorem baselineBytes_card : Rows.BaselineBytesCardSaid :=
  Claim7.holds_tied_plain_at .later [] _ _ _ _ BaselineBytes.said (fun _ h => by cases h) (by kernel_rfl) (fun _ h => by cases h) baselineBytes_row_tie rfl ⟨rfl, rfl⟩ (by kernel_rfl) rfl BaselineBytes.plain (by kernel_rfl)
end Go.Proofs.YtikkmcchhddfoaaGreatDoor
