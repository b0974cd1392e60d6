/- The law FormatCanonical returns true of every list of bytes and all numbers: formatting a parsed text gives a text that is parsed as the same program and formatted as itself. Conditions: none beside the row's own. -/
import Derived.Test.YtlehfgdhebapeaaGreatDoorMa
import Derived.Test.YtlehfgdhebapeaaGreatDoorPa
set_option linter.all false
namespace Go.Proofs.YtlehfgdhebapeaaGreatDoor
open Go.ChangeShapes Go.WideShapes Go.ChangeAt Go.RowKit KM
namespace FormatCanonical
set_option maxRecDepth 100000 in
theorem contract (H : Type) (enc : TypeId × Value -> H) (W : World) (base : Nat) (args : Array Value) (ds gs : List (DataW H)) (before : List MemPlace)
    (hval : ∀ (j : Nat) t v, Tryz.f4.params[j]? = some t -> args[j]? = some v -> Value.okWide Tryz.prog W .any base t v)
    (hW : DataW.Whole enc Tryz.prog Tryz.f4.params.toList Rows.formatCanonicalSpec.vars false W args.toList ds gs before) (hL : laidMetH Tryz.prog Rows.formatCanonicalRow.laid W) (hS : W.ShapedOpen Tryz.prog) :
    Calls Tryz.prog 4 args W fun e W' => ∃ v, e = .returned v /\ Rows.formatCanonicalSpec.post enc Tryz.prog Tryz.f4 false true false false W args v W' := by
  have hW' := hW
  obtain ⟨p, q, hA0, hV, rfl, hfz, hnd⟩ := hW
  have hA : DataW.TrodAll enc Tryz.prog W 0 (fun _ => true) true Tryz.f4.params.toList args.toList ds p := hA0
  rw [Tryz.params4] at hA hval
  obtain ⟨v0, vs0, d0, ds0, p0, q0, hargs, rfl, rfl, h0, r0⟩ := trodAll_cons hA
  obtain ⟨v1, vs1, d1, ds1, p1, q1, rfl, rfl, rfl, h1, r1⟩ := trodAll_cons r0
  obtain ⟨v2, vs2, d2, ds2, p2, q2, rfl, rfl, rfl, h2, r2⟩ := trodAll_cons r1
  obtain ⟨v3, vs3, d3, ds3, p3, q3, rfl, rfl, rfl, h3, r3⟩ := trodAll_cons r2
  obtain ⟨rfl, rfl, rfl⟩ := trodAll_nil r3
  obtain rfl : args = #[v0, v1, v2, v3] := by cases args; simp_all
  obtain ⟨rfl, rfl⟩ := trodVars_none hV
  obtain ⟨f0, h0⟩ := h0
  obtain ⟨pc0, R0⟩ := O3 enc Tryz.prog W _ _ [22, 5] (by kernel_rfl) f0 22 _ d0 _ (by decide) h0
  obtain ⟨a0, len0, cap0, rfl⟩ := okWide_slice Tryz.underlying22 (hval 0 _ v0 rfl rfl)
  obtain ⟨z0, t0, x0, rfl, hx0⟩ := Awj R0.typ
  obtain ⟨y0, hy0, e0⟩ := Wi R0 rfl
  cases hy0
  obtain ⟨f1, h1⟩ := h1
  obtain ⟨pc1, R1⟩ := O3 enc Tryz.prog W _ _ [34] (by kernel_rfl) f1 34 _ d1 _ (by decide) h1
  obtain ⟨n1, rfl⟩ := okWide_int Tryz.underlying34 (hval 1 _ v1 rfl rfl)
  obtain ⟨x1, hx1, rfl⟩ := Ajo Tryz.underlying34 R1.typ
  obtain ⟨y1, hy1, e1⟩ := Wi R1 rfl
  cases hy1
  obtain ⟨f2, h2⟩ := h2
  obtain ⟨pc2, R2⟩ := O3 enc Tryz.prog W _ _ [34] (by kernel_rfl) f2 34 _ d2 _ (by decide) h2
  obtain ⟨n2, rfl⟩ := okWide_int Tryz.underlying34 (hval 2 _ v2 rfl rfl)
  obtain ⟨x2, hx2, rfl⟩ := Ajo Tryz.underlying34 R2.typ
  obtain ⟨y2, hy2, e2⟩ := Wi R2 rfl
  cases hy2
  obtain ⟨f3, h3⟩ := h3
  obtain ⟨pc3, R3⟩ := O3 enc Tryz.prog W _ _ [5] (by kernel_rfl) f3 5 _ d3 _ (by decide) h3
  obtain ⟨n3, rfl⟩ := okWide_int Tryz.underlying5 (hval 3 _ v3 rfl rfl)
  obtain ⟨x3, hx3, rfl⟩ := Aj7 Tryz.underlying5 R3.typ
  obtain ⟨y3, hy3, e3⟩ := Wi R3 rfl
  cases hy3
  obtain ⟨m, hT⟩ := As6 (show laidMet Tryz.prog Rows.formatCanonicalRow.laid W from hL) hS (by simp [Rows.formatCanonicalRow]) (by simp [Rows.formatCanonicalRow]) (by simp [Rows.formatCanonicalRow]) (by simp [Rows.formatCanonicalRow]) (by simp [Rows.formatCanonicalRow])
  refine (Amp (P := Tryz.prog) (G := GT m) (w := W) Yh hST Az5 (vs := [SL z0 t0 (Bt x0), .int .u16 x1, .int .u16 x2, .int .u8 x3]) (us := [_, _, _, _]) (Alk z0 t0 x0 x1 x2 x3 hx1 hx2 hx3 hx0) hT rfl ?_).mono ?_
  · intro j hj
    match j, hj with
    | 0, _ => exact e0
    | 1, _ => exact e1
    | 2, _ => exact e2
    | 3, _ => exact e3
  · rintro e W' ⟨rfl, hbl⟩
    exact ⟨_, rfl, Apl hW' (by kernel_rfl) (by kernel_rfl) rfl rfl Tryz.underlying4 rfl rfl rfl hbl⟩
def argsW : Array Value := #[.slice none 0 0, .int .u16 0, .int .u16 0, .int .u8 0]
theorem laid_met (os : Os) : laidMet Tryz.prog Rows.formatCanonicalRow.laid ((laidWorld os).forCall (fun _ _ => 0) ⟨#[], argsW, []⟩).memory :=
  laidMet_of_run' 8 (by kernel_rfl) (by kernel_rfl)
theorem reads (os : Os) {H : Type} (enc : TypeId × Value -> H) : ∃ places, DataW.whole enc Tryz.prog ((laidWorld os).forCall (fun _ _ => 0) ⟨#[], argsW, []⟩).memory Tryz.f4.params.toList Rows.formatCanonicalSpec.vars false argsW.toList 8 = some ([.nil, .lit (.int .u16 0), .lit (.int .u16 0), .lit (.int .u8 0)], [], places) :=
  ⟨[], by kernel_rfl⟩
set_option maxRecDepth 100000 in
theorem lifted (os : Os) (started : os.Started) (H : Type) (enc : TypeId × Value -> H) (F : Stop.Interp) :
    ReturnsInHanded {} Tryz.checked os 4 .any ((OpenSpec.ofChange Rows.formatCanonicalSpec).preRow enc Tryz.prog Tryz.f4 Rows.formatCanonicalRow.domain false Rows.formatCanonicalRow.laid) (((OpenSpec.ofChange Rows.formatCanonicalSpec).at F).post enc Tryz.prog Tryz.f4 false true false false) := by
  obtain ⟨places, hx⟩ := reads os enc
  refine returnsInHanded_of_row (C := Tryz.checked) (s := OpenSpec.ofChange Rows.formatCanonicalSpec) Ak8 started (by kernel_rfl) Tryz.func4
    (witness_row_at (enc := enc) (C := Tryz.checked) false (laidWorld os) argsW rfl (by kernel_rfl) (by kernel_rfl) (by kernel_rfl)
      (OpenSpec.preRow_of_cond 8 hx (by kernel_rfl) (fun k hk => by cases hk) (by kernel_rfl) (laid_met os))) ?_
  intro W base args ds gs before hval hW _ _ _ hL hS _
  exact contract H enc W base args ds gs before hval hW hL hS
set_option maxRecDepth 100000 in
set_option maxHeartbeats 4000000 in
theorem closed : joinedFacts Tryz.prog 4 Tryz.f4 (OpenSpec.ofChange Rows.formatCanonicalSpec).bare Rows.formatCanonicalRow = true := by
  unfold joinedFacts
  iterate 31 (refine Azd ?_ ?_)
  all_goals as_aux_lemma => kernel_rfl
theorem said : Rows.FormatCanonicalSaid :=
  OpenClaim.holds_of_cond 4 Tryz.f4 rfl rfl rfl rfl rfl rfl rfl ⟨rfl, rfl, rfl, rfl, rfl⟩ rfl rfl rfl rfl rfl (by as_aux_lemma => kernel_rfl) Tryz.func4 closed
    (of_decide_eq_true (by kernel_rfl)) (by unfold Func.isWrapper; first | (rw [if_pos (by decide +kernel)]; kernel_rfl) | (rw [if_neg (by decide +kernel)]; exact ⟨rfl, rfl⟩))
    (fun os started H enc _ F => by rw [OpenClaim.pre_eq_preRow]; exact lifted os started H enc F)
theorem plain (f : FuncId) (fn : Func) (hf : Tryz.pinned.checked.prog.funcNamed "interleave/interleavelaw03.FormatCanonical" = some f) (hfn : Tryz.pinned.checked.prog.funcs[f]? = some fn) :
    true = Tryz.pinned.checked.prog.looks [] /\ ∀ (j : Nat) t, fn.params[j]? = some t -> Tryz.pinned.checked.prog.wantsStandIn t = false := by
  obtain rfl : f = 4 := Or ((show Tryz.prog.funcNamed "interleave/interleavelaw03.FormatCanonical" = some 4 by kernel_rfl).symm.trans hf) |>.symm
  obtain rfl : fn = Tryz.f4 := (Or (Tryz.func4.symm.trans hfn)).symm
  refine ⟨by kernel_rfl, fun j t ht => ?_⟩
  rw [Tryz.params4] at ht
  have ht' := Array.mem_of_getElem? ht
  simp at ht'
  have : t = 22 \/ t = 34 \/ t = 5 := by first | exact ht' | omega | (rcases ht' with h | h <;> simp [h]) | (rcases ht' with h | h | h <;> simp [h]) | (rcases ht' with h | h | h | h <;> simp [h])
  rcases this with rfl | rfl | rfl
  · exact (show Tryz.prog.wantsStandIn 22 = false by kernel_rfl)
  · exact (show Tryz.prog.wantsStandIn 34 = false by kernel_rfl)
  · exact (show Tryz.prog.wantsStandIn 5 = false by kernel_rfl)
end FormatCanonical
/-- THE CARD: FormatCanonical is true of every input. -/
theorem formatCanonical_card : Rows.FormatCanonicalCardSaid :=
  Claim7.holds_tied_plain_at .later [] _ _ _ _ FormatCanonical.said (fun _ h => by cases h) (by kernel_rfl) (fun _ h => by cases h) formatCanonical_row_tie rfl ⟨rfl, rfl⟩ (by kernel_rfl) rfl FormatCanonical.plain (by kernel_rfl)
end Go.Proofs.YtlehfgdhebapeaaGreatDoor
