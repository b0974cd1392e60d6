/- The law FormatExpr returns true of every list of bytes and every expression whose bulk together is at most 1048576: format.Expr and the reference interleaveref03.Expr give the same text. Conditions: none beside the row's own. -/
import Derived.Test.YtliiehfjcplieaaDoorLawExpr
import Derived.Test.YtliiehfjcplieaaDoorClose
namespace Go.Proofs.YtliiehfjcplieaaDoor
open Go.ChangeShapes Go.WideShapes Go.ChangeAt Go.RowKit AM

theorem ownKnob_none : ownKnob Tryd.prog.godebug = none := by kernel_rfl

/-- a slice of bytes that the row reads -/
theorem bytes_of {w : World} {pcs : List PV} {v : Value} (h : HasT Tryd.prog 22 pcs) (hl : pcs.length = 1) (hr : Rep (sig0 w) w (pcs.getD 0 .nils) v) :
    ∃ A n cap, v = .slice A n cap ∧ n ≤ 9223372036854775807 ∧ BytesAt w w.heap.size A n := by
  cases h with
  | nils hu =>
    cases hr
    exact ⟨none, 0, 0, rfl, by omega, fun i hi => absurd hi (by omega)⟩
  | @lst _ e xs hu hlen hT =>
    rw [Tryd.underlying22] at hu
    injection hu with hu
    injection hu with hu
    subst hu
    cases hr with
    | @lst _ _ a cap m row h1 h2 h3 h4 h5 h6 h7 =>
    refine ⟨some a, xs.length, cap, rfl, by unfold maxLen at hlen; omega, fun i hi => ?_⟩
    obtain ⟨n, hn, hw⟩ := hasT_int Tryd.underlying5 (hT i hi)
    have hm : m = 1 := by rw [← h5 i hi, hn]; rfl
    subst hm
    have r := h7 i 0 hi (by omega)
    rw [hn] at r
    have r' := rep_lit r
    have c := h6 i 0 hi (by omega)
    rw [r'] at c
    have hs := (h3 (by omega)).1
    simp only [Lit.wf, Bool.and_eq_true, decide_eq_true_eq] at hw
    refine ⟨a.block, a.off, n, by rw [← hs], cell_lt c, hw.1, hw.2, ?_⟩
    simpa using c
  | bool hu => rw [Tryd.underlying22] at hu; cases hu
  | int hu => rw [Tryd.underlying22] at hu; cases hu
  | str hu => rw [Tryd.underlying22] at hu; cases hu
  | struct _ hu => rw [Tryd.underlying22] at hu; cases hu

theorem globOps : Tryd.prog.globalNamed "interleave/format.operators" = some 0 := by kernel_rfl

/-- what the listed tables give -/
theorem env_of {w : World} {laid : List (String × DataW Unit)} (h : laidMet Tryd.prog laid w) (h1 : ("interleave/format.operators", Rows.laid_interleave_format_operators) ∈ laid) (h2 : ("internal/strconv.uint64pow10", Rows.laid_internal_strconv_uint64pow10) ∈ laid) : Env w w.heap.size := by
  have v1 := laid_var (ts := [3, 9, 107, 133]) (t := 133) h h1 globOps (by kernel_rfl) (by kernel_rfl) (by decide)
  have v2 := laid_var (ts := [135, 154]) (t := 154) h h2 globPow (by kernel_rfl) (by kernel_rfl) (by decide)
  have c0 := var_cell v1 globOps 2 (v := .string ⟨#[]⟩) (by kernel_rfl)
  have p0 : w.cell? ⟨1, 0, none⟩ = some (.int .u64 1) := var_cell v2 globPow 0 (by kernel_rfl)
  refine ⟨?_, fun op h1 h2 => ?_, ?_⟩
  · have a := cell_lt c0
    have b := cell_lt p0
    omega
  · have : op = 1 ∨ op = 2 ∨ op = 3 ∨ op = 4 ∨ op = 5 ∨ op = 6 ∨ op = 7 ∨ op = 8 ∨ op = 9 ∨ op = 10 ∨ op = 11 ∨ op = 12 ∨ op = 13 ∨ op = 14 ∨ op = 15 ∨ op = 16 ∨ op = 17 ∨ op = 18 := by omega
    rcases this with rfl | rfl | rfl | rfl | rfl | rfl | rfl | rfl | rfl | rfl | rfl | rfl | rfl | rfl | rfl | rfl | rfl | rfl <;> exact ⟨var_cell v1 globOps _ (by kernel_rfl), var_cell v1 globOps _ (by kernel_rfl)⟩
  · exact v2

namespace FormatExpr
theorem hb {H : Type} {l : List (DataW H)} (hk : Rows.uptoSmall H l = true) : Rows.uptoBulkAll l ≤ 1048576 := by
  unfold Rows.uptoSmall at hk
  exact of_decide_eq_true hk

set_option maxRecDepth 100000 in
theorem contract (H : Type) (enc : TypeId × Value → H) (W : World) (base : Nat) (args : Array Value) (ds gs : List (DataW H)) (before : List MemPlace)
    (hval : ∀ (j : Nat) t v, Tryd.f3.params[j]? = some t → args[j]? = some v → Value.okWide Tryd.prog W .any base t v)
    (hW : DataW.Whole enc Tryd.prog Tryd.f3.params.toList Rows.formatExprSpec.vars false W args.toList ds gs before) (hk : Rows.uptoSmall H (ds ++ gs) = true) (hL : laidMetH Tryd.prog Rows.formatExprUptoRow.laid W) :
    Calls Tryd.prog 3 args W fun e W' => ∃ v, e = .returned v ∧ Rows.formatExprSpec.post enc Tryd.prog Tryd.f3 false true false false W args v W' := by
  have hW' := hW
  obtain ⟨p, q, hA0, hV, rfl, hfz, hnd⟩ := hW
  have hA : DataW.TrodAll enc Tryd.prog W 0 (fun _ => true) true Tryd.f3.params.toList args.toList ds p := hA0
  rw [Tryd.params3] at hA hval
  obtain ⟨v0, vs0, d0, ds0, p0, q0, hargs, rfl, rfl, h0, r0⟩ := trodAll_cons hA
  obtain ⟨v1, vs1, d1, ds1, p1, q1, rfl, rfl, rfl, h1, r1⟩ := trodAll_cons r0
  obtain ⟨rfl, rfl, rfl⟩ := trodAll_nil r1
  obtain rfl : args = #[v0, v1] := by cases args; simp_all
  obtain ⟨rfl, rfl⟩ := trodVars_none hV
  have hbulk := hb hk
  simp only [List.append_nil, Rows.uptoBulkAll] at hbulk
  obtain ⟨f0, h0⟩ := h0
  obtain ⟨f1, h1⟩ := h1
  obtain ⟨pc0, R0⟩ := trod_row enc Tryd.prog W _ _ [22, 5] (by kernel_rfl) f0 22 _ d0 _ (by decide) h0
  obtain ⟨pc1, R1⟩ := trod_row enc Tryd.prog W _ _ [25, 23, 3, 2, 9] (by kernel_rfl) f1 25 _ d1 _ (by decide) h1
  obtain ⟨a, len, cap, rfl⟩ := okWide_slice Tryd.underlying22 (hval 0 _ v0 rfl rfl)
  obtain ⟨cs, rfl, _⟩ := okWide_struct Tryd.underlying25 (hval 1 _ v1 rfl rfl)
  have b0 := bytes_of R0.typ R0.len (R0.rep 0 Nat.zero_lt_one)
  obtain ⟨A, n, cap', hsl, hn, hB⟩ := b0
  have hsl' : Value.slice a len cap = .slice A n cap' := hsl
  rw [hsl'] at hW' ⊢
  have hl : cs.toList.length = pc1.length := R1.len.symm
  obtain ⟨x, d, hx, hx'⟩ := ((ex_of R1.typ).1 rfl).2 cs.toList hl R1.rep
  have hxx : ExAt W W.heap.size d x (.agg cs) := by simpa using hx
  have hb1 := R1.bulk
  have hE : Env W W.heap.size := env_of (show laidMet Tryd.prog Rows.formatExprUptoRow.laid W from hL) (.tail _ (.tail _ (.tail _ (.head _)))) (.tail _ (.tail _ (.head _)))
  refine Calls.mono (R := fun e W' => e = .returned (.bool true) ∧ Below W.heap.size W W') ?_ fun e W' ⟨he, hbl⟩ => ?_
  · by_cases h300 : 300 < n
    · exact formatExpr_long W A n cap' _ x d hxx hn h300
    · exact formatExpr_short W A n cap' _ x d hxx (by omega) hB hE (fun hc => by have := hx' d hc; omega)
  · subst he
    exact ⟨_, rfl, law_post hW' (by kernel_rfl) (by kernel_rfl) rfl rfl Tryd.underlying4 rfl rfl rfl hbl⟩

/-- a block that holds a table -/
def setRow (d : DataW Unit) : Obj → Obj
  | .cells _ t frozen => .cells (flatV d).toArray t frozen
  | o => o
/-- a world for the witness: the settled one, the listed tables holding what their initialisers lay -/
noncomputable def laidWorld (os : Os) : World :=
  { World.holding Tryd.prog os ⟨#[], #[], []⟩ with heap := ((((World.holding Tryd.prog os ⟨#[], #[], []⟩).heap.modify 0 (setRow Rows.laid_interleave_format_operators)).modify 1 (setRow Rows.laid_internal_strconv_uint64pow10)).modify 4 (setRow Rows.laid_math_bits_deBruijn32tab)).modify 5 (setRow Rows.laid_math_bits_deBruijn64tab) }
def argsW : Array Value := #[.slice none 0 0, .agg #[.int .i64 0, .int .i64 0, .string ⟨#[]⟩, .slice none 0 0]]
theorem laid_met (os : Os) : laidMet Tryd.prog Rows.formatExprUptoRow.laid ((laidWorld os).forCall (fun _ _ => 0) ⟨#[], argsW, []⟩).memory :=
  laidMet_of_run' 8 (by kernel_rfl) (by kernel_rfl)
theorem reads (os : Os) {H : Type} (enc : TypeId × Value → H) : ∃ places, DataW.whole enc Tryd.prog ((laidWorld os).forCall (fun _ _ => 0) ⟨#[], argsW, []⟩).memory Tryd.f3.params.toList Rows.formatExprSpec.vars false argsW.toList 8 = some ([.nil, .agg [.lit (.int .i64 0), .lit (.int .i64 0), .lit (.string []), .nil]], [], places) :=
  ⟨[], by kernel_rfl⟩

set_option maxRecDepth 100000 in
theorem liftedUpto (os : Os) (started : os.Started) (H : Type) (enc : TypeId × Value → H) (F : Stop.Interp) :
    ReturnsInHanded {} Tryd.checked os 3 .any ((Rows.OpenSpec.upto Rows.formatExprSpec).preRow enc Tryd.prog Tryd.f3 Rows.formatExprUptoRow.domain false Rows.formatExprUptoRow.laid) (((Rows.OpenSpec.upto Rows.formatExprSpec).at F).post enc Tryd.prog Tryd.f3 false true false false) := by
  obtain ⟨places, hx⟩ := reads os enc
  refine returnsInHanded_of_row (C := Tryd.checked) (s := Rows.OpenSpec.upto Rows.formatExprSpec) ownKnob_none started (by kernel_rfl) Tryd.func3
    (witness_row_at (enc := enc) (C := Tryd.checked) false (laidWorld os) argsW rfl (by kernel_rfl) (by kernel_rfl) (by kernel_rfl)
      (OpenSpec.preRow_of_cond 8 hx (by kernel_rfl) (fun k hk => by cases hk; kernel_rfl) (by kernel_rfl) (laid_met os))) ?_
  intro W base args ds gs before hval hW _ hcond _ hL _ _
  exact contract H enc W base args ds gs before hval hW (hcond _ rfl) hL

theorem saidUpto : Rows.FormatExprUptoSaid :=
  OpenClaim.holds_of_cond 3 Tryd.f3 rfl rfl rfl rfl rfl rfl rfl ⟨rfl, rfl, rfl, rfl, rfl⟩ rfl rfl rfl rfl rfl (by kernel_rfl) Tryd.func3 (by kernel_rfl)
    (of_decide_eq_true (by kernel_rfl)) (by unfold Func.isWrapper; first | (rw [if_pos (by decide +kernel)]; kernel_rfl) | (rw [if_neg (by decide +kernel)]; exact ⟨rfl, rfl⟩))
    (fun os started H enc _ F => by rw [OpenClaim.pre_eq_preRow]; exact liftedUpto os started H enc F)

theorem plain (f : FuncId) (fn : Func) (hf : Tryd.pinned.checked.prog.funcNamed "interleave/interleavelaw03.FormatExpr" = some f) (hfn : Tryd.pinned.checked.prog.funcs[f]? = some fn) :
    true = Tryd.pinned.checked.prog.looks [] ∧ ∀ (j : Nat) t, fn.params[j]? = some t → Tryd.pinned.checked.prog.wantsStandIn t = false := by
  obtain rfl : f = 3 := Option.some.inj ((show Tryd.prog.funcNamed "interleave/interleavelaw03.FormatExpr" = some 3 by kernel_rfl).symm.trans hf) |>.symm
  obtain rfl : fn = Tryd.f3 := (Option.some.inj (Tryd.func3.symm.trans hfn)).symm
  refine ⟨by kernel_rfl, fun j t ht => ?_⟩
  rw [Tryd.params3] at ht
  have : t = 22 ∨ t = 25 := by simpa using Array.mem_of_getElem? ht
  rcases this with rfl | rfl
  · exact (show Tryd.prog.wantsStandIn 22 = false by kernel_rfl)
  · exact (show Tryd.prog.wantsStandIn 25 = false by kernel_rfl)
end FormatExpr

/-- THE CARD: FormatExpr is true of every input up to the bulk. -/
theorem formatExpr_upto_card : Rows.FormatExprUptoCardSaid :=
  Claim7.holds_tied_plain_at .later [] _ _ _ _ FormatExpr.saidUpto (fun _ h => by cases h) (by kernel_rfl) (fun _ h => by cases h) formatExprUpto_row_tie rfl ⟨rfl, rfl⟩ (by kernel_rfl) rfl FormatExpr.plain (by kernel_rfl)
end Go.Proofs.YtliiehfjcplieaaDoor
