/- The law FormatTells returns true of every list of bytes and every program up to the bulk: format.Program and the reference give the same text of every shaped program. Conditions: none beside the row's own. -/
import Derived.Test.YtlehfgdhebapeaaDoorMl
import Derived.Test.YtlehfgdhebapeaaDoorCg
import Derived.Test.YtlehfgdhebapeaaDoorCh
set_option linter.all false
namespace Go.Proofs.YtlehfgdhebapeaaDoor
open Go.ChangeShapes Go.WideShapes Go.ChangeAt Go.RowKit KM
namespace FormatTells
set_option maxRecDepth 100000 in
theorem contract (H : Type) (enc : TypeId × Value → H) (W : World) (base : Nat) (args : Array Value) (ds gs : List (DataW H)) (before : List MemPlace)
    (hval : ∀ (j : Nat) t v, Tryd.f3.params[j]? = some t → args[j]? = some v → Value.okWide Tryd.prog W .any base t v)
    (hW : DataW.Whole enc Tryd.prog Tryd.f3.params.toList Rows.formatTellsSpec.vars false W args.toList ds gs before) (hk : Rows.uptoSmall H (ds ++ gs) = true) (hL : laidMetH Tryd.prog Rows.formatTellsUptoRow.laid W) (hS : W.ShapedOpen Tryd.prog) :
    Calls Tryd.prog 3 args W fun e W' => ∃ v, e = .returned v ∧ Rows.formatTellsSpec.post enc Tryd.prog Tryd.f3 false true false false W args v W' := by
  have hW' := hW
  obtain ⟨p, q, hA0, hV, rfl, hfz, hnd⟩ := hW
  have hA : DataW.TrodAll enc Tryd.prog W 0 (fun _ => true) true Tryd.f3.params.toList args.toList ds p := hA0
  rw [Tryd.params3] at hA hval
  obtain ⟨v0, vs0, d0, ds0, p0, q0, hargs, rfl, rfl, h0, r0⟩ := trodAll_cons hA
  obtain ⟨v1, vs1, d1, ds1, p1, q1, rfl, rfl, rfl, h1, r1⟩ := trodAll_cons r0
  obtain ⟨rfl, rfl, rfl⟩ := trodAll_nil r1
  obtain rfl : args = #[v0, v1] := by cases args; simp_all
  obtain ⟨rfl, rfl⟩ := trodVars_none hV
  unfold Rows.uptoSmall at hk
  have hbulk := of_decide_eq_true hk
  simp only [List.append_nil, Rows.uptoBulkAll] at hbulk
  obtain ⟨f0, h0⟩ := h0
  obtain ⟨pc0, R0⟩ := trod_row enc Tryd.prog W _ _ [22, 5] (by kernel_rfl) f0 22 _ d0 _ (by decide) h0
  obtain ⟨a0, len0, cap0, rfl⟩ := okWide_slice Tryd.underlying22 (hval 0 _ v0 rfl rfl)
  obtain ⟨z0, t0, x0, rfl, hx0⟩ := bts_of R0.typ
  obtain ⟨y0, hy0, e0⟩ := arg_cell R0 rfl
  cases hy0
  obtain ⟨f1, h1⟩ := h1
  obtain ⟨pc1, R1⟩ := trod_row enc Tryd.prog W _ _ [26, 23, 60, 24, 35, 33, 42, 38, 40, 32, 9, 3, 2] (by kernel_rfl) f1 26 _ d1 _ (by decide) h1
  obtain ⟨cs1, rfl, _⟩ := okWide_struct Tryd.underlying26 (hval 1 _ v1 rfl rfl)
  obtain ⟨x1, rfl, hx1⟩ := g_of R1.typ
  have hb1 := R1.bulk
  replace hb1 : bulkRow x1.row ≤ 1048576 := by omega
  have e1 := arg_agg R1
  obtain ⟨m, hT⟩ := tabs_of2 (show laidMet Tryd.prog Rows.formatTellsUptoRow.laid W from hL) (by simp [Rows.formatTellsUptoRow]) (by simp [Rows.formatTellsUptoRow])
  refine (law_calls (P := Tryd.prog) (G := GT m) (w := W) hTT hST hPT (vs := [SL z0 t0 (byteRows x0), .agg x1.row]) (us := [_, _]) (lawTells_fn z0 t0 x0 hx0 x1 hx1 hb1) hT rfl ?_).mono ?_
  · intro j hj
    match j, hj with
    | 0, _ => exact e0
    | 1, _ => exact e1
  · rintro e W' ⟨rfl, hbl⟩
    exact ⟨_, rfl, law_post hW' (by kernel_rfl) (by kernel_rfl) rfl rfl Tryd.underlying4 rfl rfl rfl hbl⟩
def argsW : Array Value := #[.slice none 0 0, .agg #[.slice none 0 0, .slice none 0 0]]
theorem laid_met (os : Os) : laidMet Tryd.prog Rows.formatTellsUptoRow.laid ((laidWorld os).forCall (fun _ _ => 0) ⟨#[], argsW, []⟩).memory :=
  laidMet_of_run' 8 (by kernel_rfl) (by kernel_rfl)
theorem reads (os : Os) {H : Type} (enc : TypeId × Value → H) : ∃ places, DataW.whole enc Tryd.prog ((laidWorld os).forCall (fun _ _ => 0) ⟨#[], argsW, []⟩).memory Tryd.f3.params.toList Rows.formatTellsSpec.vars false argsW.toList 8 = some ([.nil, .agg [.nil, .nil]], [], places) :=
  ⟨[], by kernel_rfl⟩
set_option maxRecDepth 100000 in
theorem lifted (os : Os) (started : os.Started) (H : Type) (enc : TypeId × Value → H) (F : Stop.Interp) :
    ReturnsInHanded {} Tryd.checked os 3 .any ((Rows.OpenSpec.upto Rows.formatTellsSpec).preRow enc Tryd.prog Tryd.f3 Rows.formatTellsUptoRow.domain false Rows.formatTellsUptoRow.laid) (((Rows.OpenSpec.upto Rows.formatTellsSpec).at F).post enc Tryd.prog Tryd.f3 false true false false) := by
  obtain ⟨places, hx⟩ := reads os enc
  refine returnsInHanded_of_row (C := Tryd.checked) (s := Rows.OpenSpec.upto Rows.formatTellsSpec) ownKnob_none started (by kernel_rfl) Tryd.func3
    (witness_row_at (enc := enc) (C := Tryd.checked) false (laidWorld os) argsW rfl (by kernel_rfl) (by kernel_rfl) (by kernel_rfl)
      (OpenSpec.preRow_of_cond 8 hx (by kernel_rfl) (fun k hk => by cases hk; kernel_rfl) (by kernel_rfl) (laid_met os))) ?_
  intro W base args ds gs before hval hW _ hcond _ hL hS _
  exact contract H enc W base args ds gs before hval hW (hcond _ rfl) hL hS
set_option maxRecDepth 100000 in
set_option maxHeartbeats 4000000 in
theorem closed : joinedFacts Tryd.prog 3 Tryd.f3 (Rows.OpenSpec.upto Rows.formatTellsSpec).bare Rows.formatTellsUptoRow = true := by
  unfold joinedFacts
  iterate 31 (refine and_t ?_ ?_)
  all_goals as_aux_lemma => kernel_rfl
theorem said : Rows.FormatTellsUptoSaid :=
  OpenClaim.holds_of_cond 3 Tryd.f3 rfl rfl rfl rfl rfl rfl rfl ⟨rfl, rfl, rfl, rfl, rfl⟩ rfl rfl rfl rfl rfl (by as_aux_lemma => kernel_rfl) Tryd.func3 closed
    (of_decide_eq_true (by kernel_rfl)) (by unfold Func.isWrapper; first | (rw [if_pos (by decide +kernel)]; kernel_rfl) | (rw [if_neg (by decide +kernel)]; exact ⟨rfl, rfl⟩))
    (fun os started H enc _ F => by rw [OpenClaim.pre_eq_preRow]; exact lifted os started H enc F)
theorem plain (f : FuncId) (fn : Func) (hf : Tryd.pinned.checked.prog.funcNamed "interleave/interleavelaw03.FormatTells" = some f) (hfn : Tryd.pinned.checked.prog.funcs[f]? = some fn) :
    true = Tryd.pinned.checked.prog.looks [] ∧ ∀ (j : Nat) t, fn.params[j]? = some t → Tryd.pinned.checked.prog.wantsStandIn t = false := by
  obtain rfl : f = 3 := Option.some.inj ((show Tryd.prog.funcNamed "interleave/interleavelaw03.FormatTells" = some 3 by kernel_rfl).symm.trans hf) |>.symm
  obtain rfl : fn = Tryd.f3 := (Option.some.inj (Tryd.func3.symm.trans hfn)).symm
  refine ⟨by kernel_rfl, fun j t ht => ?_⟩
  rw [Tryd.params3] at ht
  have ht' := Array.mem_of_getElem? ht
  simp at ht'
  have : t = 22 ∨ t = 26 := by first | exact ht' | omega | (rcases ht' with h | h <;> simp [h])
  rcases this with rfl | rfl
  · exact (show Tryd.prog.wantsStandIn 22 = false by kernel_rfl)
  · exact (show Tryd.prog.wantsStandIn 26 = false by kernel_rfl)
end FormatTells
/-- THE CARD: FormatTells is true of every input up to the bulk. -/
theorem formatTells_card : Rows.FormatTellsUptoCardSaid :=
  Claim7.holds_tied_plain_at .later [] _ _ _ _ FormatTells.said (fun _ h => by cases h) (by kernel_rfl) (fun _ h => by cases h) formatTellsUpto_row_tie rfl ⟨rfl, rfl⟩ (by kernel_rfl) rfl FormatTells.plain (by kernel_rfl)
end Go.Proofs.YtlehfgdhebapeaaDoor
