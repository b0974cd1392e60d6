/- Walks: the reference's texts of declarations and programs. -/
import Derived.Test.YtlehfgdhebapeaaDoorGc
set_option linter.all false
namespace Go.Proofs.YtlehfgdhebapeaaDoor.KM
open Go
theorem dec_le : ∀ (k u : Nat), (decE k u).length ≤ k
  | 0, _ => by simp [decE]
  | k + 1, u => by
    have := dec_le k (u / 10)
    unfold decE
    split
    · simp
    · simp; omega
theorem itoa_le (n : Int) : (itoaE n).length ≤ 21 := by
  unfold itoaE
  split
  · have := dec_le 20 n.natAbs
    simp; omega
  · have := dec_le 20 n.toNat
    omega
theorem rdecl_fn {d : Dp} (h : CnD d) (hn : d.nm.length ≤ 100000000000000) (ho : d.kind = 5 → d.on.length ≤ 100000000000000) : Fn TT PT 28 [.agg d.row] (.str (declE d ++ [59, 10])) := by
  obtain ⟨⟨k1, k2⟩, ⟨h0, h1, h2⟩, i1, i2, h3⟩ := h
  obtain ⟨kind, line, nm, size, init, on⟩ := d
  simp only at k1 k2 h0 h1 h2 i1 i2 h3 hn ho
  unfold Dp.row
  simp only
  have l1 := itoa_le size
  have l2 := itoa_le init
  have hk : kind = 1 ∨ kind = 2 ∨ kind = 3 ∨ kind = 4 ∨ kind = 5 ∨ kind = 6 := by omega
  have hsz : (size = 0 ∧ ((0 : Int) < 0) = False ∧ True) ∨ (size ≠ 0 ∧ ((0 : Int) < size) = True ∧ itoaS [.int .i64 size] = some (.str (itoaE size))) := by
    by_cases hz : size = 0
    · exact .inl ⟨hz, eq_false (by omega), trivial⟩
    · exact .inr ⟨hz, eq_true (by omega), by unfold itoaS; exact if_pos ⟨by omega, h1⟩⟩
  have hin : (init = 0 ∧ ((0 : Int) != 0) = false ∧ True) ∨ (init ≠ 0 ∧ (init != 0) = true ∧ fmtS [.int .i64 init, .int .i64 10] = some (.str (itoaE init))) := by
    by_cases hz : init = 0
    · exact .inl ⟨hz, by decide, trivial⟩
    · exact .inr ⟨hz, by simp [hz], by unfold fmtS; exact if_pos ⟨i1, i2⟩⟩
  -- CASES
  rcases hk with rfl | hk
  · rcases hsz with ⟨rfl, z1, z2⟩ | ⟨z0, z1, z2⟩ <;> rcases hin with ⟨rfl, n1, n2⟩ | ⟨n0, n1, n2⟩
    · refine Fn_go T28 rfl ?_
      have a1 : binS .add ([118, 97, 114, 32]) (nm) = some (.str (118 :: 97 :: 114 :: 32 :: nm)) := bin_add (by simp; try omega) (by simp)
      have a2 : binS .add (118 :: 97 :: 114 :: 32 :: nm) ([59, 10]) = some (.str (118 :: 97 :: 114 :: 32 :: (nm ++ [59, 10]))) := bin_add (by simp; try omega) (by simp)
      simp only [go_sem, Int.reduceLT, Int.reduceBEq, gt_iff_lt, z1, n1]
      refine w_drw (by kernel_rfl) ?_
      simp only [go_sem, ↓a1, ↓a2]
      simp only [go_sem, z1, n1, Int.reduceBEq, ↓a1, ↓a2]
      exact fr_eq rfl (by simp [declE, initE])
    · refine Fn_go T28 rfl ?_
      have a1 : binS .add ([118, 97, 114, 32]) (nm) = some (.str (118 :: 97 :: 114 :: 32 :: nm)) := bin_add (by simp; try omega) (by simp)
      have a2 : binS .add (118 :: 97 :: 114 :: 32 :: nm) ([32, 61, 32]) = some (.str (118 :: 97 :: 114 :: 32 :: (nm ++ [32, 61, 32]))) := bin_add (by simp; try omega) (by simp)
      have a3 : binS .add (118 :: 97 :: 114 :: 32 :: (nm ++ [32, 61, 32])) (itoaE init) = some (.str (118 :: 97 :: 114 :: 32 :: (nm ++ 32 :: 61 :: 32 :: itoaE init))) := bin_add (by simp; try omega) (by simp)
      have a4 : binS .add (118 :: 97 :: 114 :: 32 :: (nm ++ 32 :: 61 :: 32 :: itoaE init)) ([59, 10]) = some (.str (118 :: 97 :: 114 :: 32 :: (nm ++ 32 :: 61 :: 32 :: (itoaE init ++ [59, 10])))) := bin_add (by simp; try omega) (by simp)
      simp only [go_sem, Int.reduceLT, Int.reduceBEq, gt_iff_lt, z1, n1]
      refine w_drw (by kernel_rfl) ?_
      simp only [go_sem, ↓a1, ↓a2, ↓a3, ↓a4]
      simp only [go_sem, z1, n1, Int.reduceBEq, ↓a1, ↓a2, ↓a3, ↓a4]
      refine wx_pr P51 (by simp only [go_sem]) n2 ?_
      simp only [go_sem, z1, n1, Int.reduceBEq, ↓a1, ↓a2, ↓a3, ↓a4]
      exact fr_eq rfl (by simp [declE, initE, n0])
    · refine Fn_go T28 rfl ?_
      have a1 : binS .add ([118, 97, 114, 32]) (nm) = some (.str (118 :: 97 :: 114 :: 32 :: nm)) := bin_add (by simp; try omega) (by simp)
      have a2 : binS .add (118 :: 97 :: 114 :: 32 :: nm) ([91]) = some (.str (118 :: 97 :: 114 :: 32 :: (nm ++ [91]))) := bin_add (by simp; try omega) (by simp)
      have c1 : binS .add (118 :: 97 :: 114 :: 32 :: (nm ++ [91])) (itoaE size) = some (.str (118 :: 97 :: 114 :: 32 :: (nm ++ 91 :: itoaE size))) := bin_add (by simp; try omega) (by simp)
      have c2 : binS .add (118 :: 97 :: 114 :: 32 :: (nm ++ 91 :: itoaE size)) [93] = some (.str (118 :: 97 :: 114 :: 32 :: (nm ++ 91 :: (itoaE size ++ [93])))) := bin_add (by simp; try omega) (by simp)
      have a3 : binS .add (118 :: 97 :: 114 :: 32 :: (nm ++ 91 :: (itoaE size ++ [93]))) ([59, 10]) = some (.str (118 :: 97 :: 114 :: 32 :: (nm ++ 91 :: (itoaE size ++ [93, 59, 10])))) := bin_add (by simp; try omega) (by simp)
      simp only [go_sem, Int.reduceLT, Int.reduceBEq, gt_iff_lt, z1, n1]
      refine w_drw (by kernel_rfl) ?_
      simp only [go_sem, ↓a1, ↓a2, ↓c1, ↓c2, ↓a3]
      simp only [go_sem, z1, ↓a1, ↓a2, ↓c1, ↓c2, ↓a3]
      refine wx_pr P46 (by simp only [go_sem]) z2 ?_
      simp only [go_sem, z1, n1, Int.reduceBEq, ↓a1, ↓a2, ↓c1, ↓c2, ↓a3]
      exact fr_eq rfl (by simp [declE, initE, z0])
    · refine Fn_go T28 rfl ?_
      have a1 : binS .add ([118, 97, 114, 32]) (nm) = some (.str (118 :: 97 :: 114 :: 32 :: nm)) := bin_add (by simp; try omega) (by simp)
      have a2 : binS .add (118 :: 97 :: 114 :: 32 :: nm) ([91]) = some (.str (118 :: 97 :: 114 :: 32 :: (nm ++ [91]))) := bin_add (by simp; try omega) (by simp)
      have c1 : binS .add (118 :: 97 :: 114 :: 32 :: (nm ++ [91])) (itoaE size) = some (.str (118 :: 97 :: 114 :: 32 :: (nm ++ 91 :: itoaE size))) := bin_add (by simp; try omega) (by simp)
      have c2 : binS .add (118 :: 97 :: 114 :: 32 :: (nm ++ 91 :: itoaE size)) [93] = some (.str (118 :: 97 :: 114 :: 32 :: (nm ++ 91 :: (itoaE size ++ [93])))) := bin_add (by simp; try omega) (by simp)
      have a3 : binS .add (118 :: 97 :: 114 :: 32 :: (nm ++ 91 :: (itoaE size ++ [93]))) ([32, 61, 32]) = some (.str (118 :: 97 :: 114 :: 32 :: (nm ++ 91 :: (itoaE size ++ [93, 32, 61, 32])))) := bin_add (by simp; try omega) (by simp)
      have a4 : binS .add (118 :: 97 :: 114 :: 32 :: (nm ++ 91 :: (itoaE size ++ [93, 32, 61, 32]))) (itoaE init) = some (.str (118 :: 97 :: 114 :: 32 :: (nm ++ 91 :: (itoaE size ++ 93 :: 32 :: 61 :: 32 :: itoaE init)))) := bin_add (by simp; try omega) (by simp)
      have a5 : binS .add (118 :: 97 :: 114 :: 32 :: (nm ++ 91 :: (itoaE size ++ 93 :: 32 :: 61 :: 32 :: itoaE init))) ([59, 10]) = some (.str (118 :: 97 :: 114 :: 32 :: (nm ++ 91 :: (itoaE size ++ 93 :: 32 :: 61 :: 32 :: (itoaE init ++ [59, 10]))))) := bin_add (by simp; try omega) (by simp)
      simp only [go_sem, Int.reduceLT, Int.reduceBEq, gt_iff_lt, z1, n1]
      refine w_drw (by kernel_rfl) ?_
      simp only [go_sem, ↓a1, ↓a2, ↓c1, ↓c2, ↓a3, ↓a4, ↓a5]
      simp only [go_sem, z1, ↓a1, ↓a2, ↓c1, ↓c2, ↓a3, ↓a4, ↓a5]
      refine wx_pr P46 (by simp only [go_sem]) z2 ?_
      simp only [go_sem, z1, n1, Int.reduceBEq, ↓a1, ↓a2, ↓c1, ↓c2, ↓a3, ↓a4, ↓a5]
      refine wx_pr P51 (by simp only [go_sem]) n2 ?_
      simp only [go_sem, z1, n1, Int.reduceBEq, ↓a1, ↓a2, ↓c1, ↓c2, ↓a3, ↓a4, ↓a5]
      exact fr_eq rfl (by simp [declE, initE, z0, n0])
  rcases hk with rfl | hk
  · obtain rfl : size = 0 := h2 (by omega)
    have z1 : ((0 : Int) < 0) = False := eq_false (by omega)
    rcases hin with ⟨rfl, n1, n2⟩ | ⟨n0, n1, n2⟩
    · refine Fn_go T28 rfl ?_
      have a1 : binS .add ([118, 111, 108, 97, 116, 105, 108, 101, 32]) (nm) = some (.str (118 :: 111 :: 108 :: 97 :: 116 :: 105 :: 108 :: 101 :: 32 :: nm)) := bin_add (by simp; try omega) (by simp)
      have a2 : binS .add (118 :: 111 :: 108 :: 97 :: 116 :: 105 :: 108 :: 101 :: 32 :: nm) ([59, 10]) = some (.str (118 :: 111 :: 108 :: 97 :: 116 :: 105 :: 108 :: 101 :: 32 :: (nm ++ [59, 10]))) := bin_add (by simp; try omega) (by simp)
      simp only [go_sem, Int.reduceLT, Int.reduceBEq, gt_iff_lt, z1, n1]
      refine w_drw (by kernel_rfl) ?_
      simp only [go_sem, ↓a1, ↓a2]
      simp only [go_sem, z1, n1, Int.reduceBEq, ↓a1, ↓a2]
      exact fr_eq rfl (by simp [declE, initE])
    · refine Fn_go T28 rfl ?_
      have a1 : binS .add ([118, 111, 108, 97, 116, 105, 108, 101, 32]) (nm) = some (.str (118 :: 111 :: 108 :: 97 :: 116 :: 105 :: 108 :: 101 :: 32 :: nm)) := bin_add (by simp; try omega) (by simp)
      have a2 : binS .add (118 :: 111 :: 108 :: 97 :: 116 :: 105 :: 108 :: 101 :: 32 :: nm) ([32, 61, 32]) = some (.str (118 :: 111 :: 108 :: 97 :: 116 :: 105 :: 108 :: 101 :: 32 :: (nm ++ [32, 61, 32]))) := bin_add (by simp; try omega) (by simp)
      have a3 : binS .add (118 :: 111 :: 108 :: 97 :: 116 :: 105 :: 108 :: 101 :: 32 :: (nm ++ [32, 61, 32])) (itoaE init) = some (.str (118 :: 111 :: 108 :: 97 :: 116 :: 105 :: 108 :: 101 :: 32 :: (nm ++ 32 :: 61 :: 32 :: itoaE init))) := bin_add (by simp; try omega) (by simp)
      have a4 : binS .add (118 :: 111 :: 108 :: 97 :: 116 :: 105 :: 108 :: 101 :: 32 :: (nm ++ 32 :: 61 :: 32 :: itoaE init)) ([59, 10]) = some (.str (118 :: 111 :: 108 :: 97 :: 116 :: 105 :: 108 :: 101 :: 32 :: (nm ++ 32 :: 61 :: 32 :: (itoaE init ++ [59, 10])))) := bin_add (by simp; try omega) (by simp)
      simp only [go_sem, Int.reduceLT, Int.reduceBEq, gt_iff_lt, z1, n1]
      refine w_drw (by kernel_rfl) ?_
      simp only [go_sem, ↓a1, ↓a2, ↓a3, ↓a4]
      simp only [go_sem, z1, n1, Int.reduceBEq, ↓a1, ↓a2, ↓a3, ↓a4]
      refine wx_pr P51 (by simp only [go_sem]) n2 ?_
      simp only [go_sem, z1, n1, Int.reduceBEq, ↓a1, ↓a2, ↓a3, ↓a4]
      exact fr_eq rfl (by simp [declE, initE, n0])
  rcases hk with rfl | hk
  · obtain rfl : size = 0 := h2 (by omega)
    obtain rfl : init = 0 := h3 (by omega) (by omega)
    have z1 : ((0 : Int) < 0) = False := eq_false (by omega)
    have n1 : ((0 : Int) != 0) = false := by decide
    refine Fn_go T28 rfl ?_
    have a1 : binS .add ([109, 117, 116, 101, 120, 32]) (nm) = some (.str (109 :: 117 :: 116 :: 101 :: 120 :: 32 :: nm)) := bin_add (by simp; try omega) (by simp)
    have a2 : binS .add (109 :: 117 :: 116 :: 101 :: 120 :: 32 :: nm) ([59, 10]) = some (.str (109 :: 117 :: 116 :: 101 :: 120 :: 32 :: (nm ++ [59, 10]))) := bin_add (by simp; try omega) (by simp)
    simp only [go_sem, Int.reduceLT, Int.reduceBEq, gt_iff_lt, z1, n1]
    refine w_drw (by kernel_rfl) ?_
    simp only [go_sem, ↓a1, ↓a2]
    simp only [go_sem, z1, n1, Int.reduceBEq, ↓a1, ↓a2]
    exact fr_eq rfl (by simp [declE, initE])
  rcases hk with rfl | hk
  · obtain rfl : size = 0 := h2 (by omega)
    obtain rfl : init = 0 := h3 (by omega) (by omega)
    have z1 : ((0 : Int) < 0) = False := eq_false (by omega)
    have n1 : ((0 : Int) != 0) = false := by decide
    refine Fn_go T28 rfl ?_
    have a1 : binS .add ([114, 119, 108, 111, 99, 107, 32]) (nm) = some (.str (114 :: 119 :: 108 :: 111 :: 99 :: 107 :: 32 :: nm)) := bin_add (by simp; try omega) (by simp)
    have a2 : binS .add (114 :: 119 :: 108 :: 111 :: 99 :: 107 :: 32 :: nm) ([59, 10]) = some (.str (114 :: 119 :: 108 :: 111 :: 99 :: 107 :: 32 :: (nm ++ [59, 10]))) := bin_add (by simp; try omega) (by simp)
    simp only [go_sem, Int.reduceLT, Int.reduceBEq, gt_iff_lt, z1, n1]
    refine w_drw (by kernel_rfl) ?_
    simp only [go_sem, ↓a1, ↓a2]
    simp only [go_sem, z1, n1, Int.reduceBEq, ↓a1, ↓a2]
    exact fr_eq rfl (by simp [declE, initE])
  rcases hk with rfl | hk
  · have ho := ho rfl
    obtain rfl : size = 0 := h2 (by omega)
    obtain rfl : init = 0 := h3 (by omega) (by omega)
    have z1 : ((0 : Int) < 0) = False := eq_false (by omega)
    have n1 : ((0 : Int) != 0) = false := by decide
    refine Fn_go T28 rfl ?_
    have a1 : binS .add ([99, 111, 110, 100, 32]) (nm) = some (.str (99 :: 111 :: 110 :: 100 :: 32 :: nm)) := bin_add (by simp; try omega) (by simp)
    have a2 : binS .add (99 :: 111 :: 110 :: 100 :: 32 :: nm) ([32]) = some (.str (99 :: 111 :: 110 :: 100 :: 32 :: (nm ++ [32]))) := bin_add (by simp; try omega) (by simp)
    have a3 : binS .add (99 :: 111 :: 110 :: 100 :: 32 :: (nm ++ [32])) (on) = some (.str (99 :: 111 :: 110 :: 100 :: 32 :: (nm ++ 32 :: on))) := bin_add (by simp; try omega) (by simp)
    have a4 : binS .add (99 :: 111 :: 110 :: 100 :: 32 :: (nm ++ 32 :: on)) ([59, 10]) = some (.str (99 :: 111 :: 110 :: 100 :: 32 :: (nm ++ 32 :: (on ++ [59, 10])))) := bin_add (by simp; try omega) (by simp)
    simp only [go_sem, Int.reduceLT, Int.reduceBEq, gt_iff_lt, z1, n1]
    refine w_drw (by kernel_rfl) ?_
    simp only [go_sem, ↓a1, ↓a2, ↓a3, ↓a4]
    simp only [go_sem, z1, n1, Int.reduceBEq, ↓a1, ↓a2, ↓a3, ↓a4]
    exact fr_eq rfl (by simp [declE, initE])
  subst hk
  obtain rfl : size = 0 := h2 (by omega)
  obtain rfl : init = 0 := h3 (by omega) (by omega)
  have z1 : ((0 : Int) < 0) = False := eq_false (by omega)
  have n1 : ((0 : Int) != 0) = false := by decide
  refine Fn_go T28 rfl ?_
  have a1 : binS .add ([102, 117, 116, 117, 114, 101, 32]) (nm) = some (.str (102 :: 117 :: 116 :: 117 :: 114 :: 101 :: 32 :: nm)) := bin_add (by simp; try omega) (by simp)
  have a2 : binS .add (102 :: 117 :: 116 :: 117 :: 114 :: 101 :: 32 :: nm) ([59, 10]) = some (.str (102 :: 117 :: 116 :: 117 :: 114 :: 101 :: 32 :: (nm ++ [59, 10]))) := bin_add (by simp; try omega) (by simp)
  simp only [go_sem, Int.reduceLT, Int.reduceBEq, gt_iff_lt, z1, n1]
  refine w_drw (by kernel_rfl) ?_
  simp only [go_sem, ↓a1, ↓a2]
  simp only [go_sem, z1, n1, Int.reduceBEq, ↓a1, ↓a2]
  exact fr_eq rfl (by simp [declE, initE])
/-- programs -/
theorem declE_in {d : Dp} (h : 1 ≤ d.kind ∧ d.kind ≤ 6) : d.nm.length ≤ (declE d).length ∧ (d.kind = 5 → d.on.length ≤ (declE d).length) := by
  unfold declE
  refine ⟨?_, fun h5 => ?_⟩
  · repeat' split
    all_goals simp
    all_goals omega
  · rw [if_neg (by omega), if_neg (by omega), if_neg (by omega), if_neg (by omega), if_pos h5]
    simp
    omega
def jr : List (List UInt8) → List UInt8
  | [] => []
  | a :: l => 44 :: 32 :: (a ++ jr l)
theorem join_jr : ∀ (a : List UInt8) (l : List (List UInt8)), joinE (a :: l) = a ++ jr l
  | a, [] => by simp [joinE, jr]
  | a, b :: l => by rw [joinE, join_jr b l, jr]
def jrem (l : List (List UInt8)) (k : Nat) : List UInt8 := if k = 0 then joinE l else jr (l.drop k)
theorem locals_len (l : List (List UInt8)) : l.length ≤ (joinE l).length + 1 := by
  have : ∀ l : List (List UInt8), l.length ≤ (jr l).length := fun l => by
    induction l with
    | nil => simp
    | cons a l ih => simp [jr]; omega
  cases l with
  | nil => simp
  | cons a l => rw [join_jr]; have := this l; simp; omega
theorem flatE_count {α : Type} (f : α → List UInt8) (hf : ∀ x, 1 ≤ (f x).length) : ∀ l : List α, l.length ≤ ((l.map f).flatten).length
  | [] => by simp
  | y :: l => by
    have := flatE_count f hf l
    have := hf y
    rw [List.map_cons, List.flatten_cons, List.length_append, List.length_cons]
    omega
/-- the locals of a thread -/
theorem rlocals_w {K : List It} {Q : Env → St → Prop} {A C : V} {l : List (List UInt8)} {z : Bool} {u j0 : Nat} {nm : List UInt8} {line : Int} {B : V} {s : St} (hs : s[j0]? = some (.row [.str nm, .int .i64 line, SL z u (l.map fun x => [V.str x]), B] 35 0 0)) (acc : List UInt8) (hl : acc.length + (joinE l).length ≤ 100000000000000)
    (h : W TT PT K [(1, A), (3, .str (acc ++ joinE l)), (5, C), (6, .ptr j0 0 0), (7, .int .i64 (l.length : Int))] s Q) :
    W TT PT (.l [1, 3, 5, 6, 7] lp9_1 :: .b 4 :: K) [(1, A), (3, .str acc), (5, C), (6, .ptr j0 0 0), (7, .int .i64 0)] s Q := by
  have hll := locals_len l
  have hlm : (l.map fun x => [V.str x]).length = l.length := List.length_map ..
  refine loop_w (α := Nat × List UInt8) (fun a => l.length - a.1) (fun a => [(1, A), (3, .str a.2), (5, C), (6, .ptr j0 0 0), (7, .int .i64 (a.1 : Int))]) (fun _ => s) (fun a => a.1 ≤ l.length ∧ a.2 ++ jrem l a.1 = acc ++ joinE l) ?_ (0, acc) ⟨Nat.zero_le _, rfl⟩
  rintro ⟨i, c⟩ ⟨hi, hc⟩ ih
  simp only at hi hc ih
  refine w_rep (by delta lp9_1; exact rfl) ?_
  have hcl := congrArg List.length hc
  simp only [List.length_append] at hcl
  rcases Nat.lt_or_ge i l.length with h' | h'
  · obtain ⟨x, hx, hd, hm⟩ := at_some h'
    have hinc := inc64 (show i < 9223372036854775807 by omega)
    by_cases hi0 : i = 0
    · subst hi0
      have f0 : ((0 : Int) < ((0 : Nat) : Int)) = False := eq_false (by omega)
      have f0' : ((0 : Int) < 0) = False := eq_false (by omega)
      have f1 : ((0 : Int) < (l.length : Int)) = True := eq_true (by omega)
      have hxl : l = x :: l.drop 1 := by simpa using hd
      have hj : jrem l 0 = x ++ jr (l.drop 1) := by
        unfold jrem
        rw [if_pos rfl]
        conv => lhs; rw [hxl]
        exact join_jr x _
      rw [hj] at hc hcl
      rw [List.length_append] at hcl
      have a1 : binS .add c x = some (.str (c ++ x)) := bin_add (by omega) rfl
      simp only [go_sem, hs, hlm, f1, f0, f0', List.getElem?_map, hx, ↓a1, hinc]
      refine W_keep (ih (1, c ++ x) (by simp; omega) ⟨by simp; omega, ?_⟩) rfl
      simp only
      rw [← hc, List.append_assoc]
      rfl
    · have f0 : ((0 : Int) < (i : Int)) = True := eq_true (by omega)
      have hj : jrem l i = 44 :: 32 :: (x ++ jr (l.drop (i + 1))) := by
        unfold jrem
        rw [if_neg hi0, hd, jr]
      rw [hj] at hc hcl
      simp only [List.length_cons, List.length_append] at hcl
      have a1 : binS .add c [44, 32] = some (.str (c ++ [44, 32])) := bin_add (by simp; omega) rfl
      have a2 : binS .add (c ++ [44, 32]) x = some (.str (c ++ 44 :: 32 :: x)) := bin_add (by simp; omega) (by simp)
      simp only [go_sem, hs, hlm, lt_t h', f0, ↓a1]
      simp only [go_sem, hs, List.getElem?_map, hx, ↓a2, hinc]
      refine W_keep (ih (i + 1, c ++ 44 :: 32 :: x) (by simp; omega) ⟨by simp; omega, ?_⟩) rfl
      simp only
      rw [← hc]
      unfold jrem
      rw [if_neg (by omega)]
      simp
  · obtain rfl : i = l.length := by omega
    have hj : jrem l l.length = [] := by
      unfold jrem
      split
      · rename_i h0
        rw [List.eq_nil_of_length_eq_zero h0]
        rfl
      · rw [List.drop_eq_nil_of_le h']
        rfl
    rw [hj, List.append_nil] at hc
    subst hc
    simp only [go_sem, hs, hlm, lt_f h']
    exact h
theorem rprog_fn {p : Gp} (h : CnG p) (hl : (progE p).length ≤ 100000000000000) : Fn TT PT 9 [.agg p.row] (.str (progE p)) := by
  obtain ⟨hD, hT⟩ := h
  obtain ⟨dz, dt, decls, tz, tt, thrs⟩ := p
  simp only at hD hT
  unfold progE at hl ⊢
  simp only at hl ⊢
  unfold Gp.row
  simp only
  have n1 : (decls.map Dp.row).length = decls.length := List.length_map ..
  have n2 : (thrs.map Tp.row).length = thrs.length := List.length_map ..
  rw [List.length_append] at hl
  have c1 := flatE_count (fun d => declE d ++ [59, 10]) (fun x => by simp) decls
  have c2 := flatE_count thrE (fun x => by simp [thrE]) thrs
  refine Fn_go T9 rfl ?_
  simp only [go_sem]
  refine loop_w (α := Nat × List UInt8) (fun a => decls.length - a.1) (fun a => [(1, .ptr 0 0 0), (3, .str a.2), (4, .int .i64 (a.1 : Int))]) (fun _ => [.row [SL dz dt (decls.map Dp.row), SL tz tt (thrs.map Tp.row)] 26 0 0]) (fun a => a.1 ≤ decls.length ∧ a.2 ++ ((decls.drop a.1).map fun d => declE d ++ [59, 10]).flatten = (decls.map fun d => declE d ++ [59, 10]).flatten) ?_ (0, []) ⟨Nat.zero_le _, rfl⟩
  rintro ⟨i, acc⟩ ⟨hi, hc⟩ ih
  simp only at hi hc ih
  refine w_rep (by delta lp9_0; exact rfl) ?_
  have hcl := congrArg List.length hc
  simp only [List.length_append] at hcl
  rcases Nat.lt_or_ge i decls.length with h' | h'
  · obtain ⟨x, hx, hd, hm⟩ := at_some h'
    rw [hd, List.map_cons, List.flatten_cons] at hc hcl
    simp only [List.length_append, List.length_cons, List.length_nil] at hcl
    obtain ⟨e1, e2⟩ := declE_in (hD x hm).kind
    have hf := rdecl_fn (hD x hm) (by omega) (fun h5 => by have := e2 h5; omega)
    have a1 : binS .add acc (declE x ++ [59, 10]) = some (.str (acc ++ (declE x ++ [59, 10]))) := bin_add (by simp; omega) rfl
    have hrow : x.row = [.int .i64 x.kind, .int .i64 x.line, .str x.nm, .int .i64 x.size, .int .i64 x.init, .str x.on] := rfl
    rw [hrow] at hf
    simp only [go_sem, n1, lt_t h', List.getElem?_map, hx, hrow]
    refine wx_fn hf (by simp only [go_sem]) ?_
    simp only [go_sem, ↓a1, inc64 (show i < 9223372036854775807 by omega)]
    refine W_keep (ih (i + 1, acc ++ (declE x ++ [59, 10])) (by simp; omega) ⟨by simp; omega, ?_⟩) rfl
    simp only
    rw [List.append_assoc]
    exact hc
  · obtain rfl : i = decls.length := by omega
    rw [List.drop_eq_nil_of_le h'] at hc
    simp only [List.map_nil, List.flatten_nil, List.append_nil] at hc
    subst hc
    clear ih
    simp only [go_sem, n1, lt_f h']
    refine loop_w (α := Nat × List UInt8 × St) (fun a => thrs.length - a.1) (fun a => [(1, .ptr 0 0 0), (3, .str a.2.1), (5, .int .i64 (a.1 : Int))]) (fun a => a.2.2) (fun a => a.1 ≤ thrs.length ∧ a.2.1 ++ ((thrs.drop a.1).map thrE).flatten = (decls.map fun d => declE d ++ [59, 10]).flatten ++ (thrs.map thrE).flatten ∧ a.2.2[0]? = some (.row [SL dz dt (decls.map Dp.row), SL tz tt (thrs.map Tp.row)] 26 0 0)) ?_ (0, _, _) ⟨Nat.zero_le _, rfl, rfl⟩
    rintro ⟨i, acc, s⟩ ⟨hi, hc, hs⟩ ih
    simp only at hi hc hs ih
    refine w_rep (by delta lp9_2; exact rfl) ?_
    have hcl := congrArg List.length hc
    simp only [List.length_append] at hcl
    rcases Nat.lt_or_ge i thrs.length with h' | h'
    · obtain ⟨x, hx, hd, hm⟩ := at_some h'
      rw [hd, List.map_cons, List.flatten_cons] at hc hcl
      rw [List.length_append] at hcl
      have hth := hT x hm
      obtain ⟨nm, line, lz, lt, locals, bz, bt, body⟩ := x
      simp only at hth
      have hlen : (thrE ⟨nm, line, lz, lt, locals, bz, bt, body⟩).length = nm.length + (joinE locals).length + (Sp.txts 1 body).length + 14 := by
        simp [thrE]
        omega
      have hb := rstmts_fn bz bt 1 body (fun q hq => rstmt_fn (hth q hq) 1 (by have := stxts_mem 1 hq; omega)) (by omega) (by have := list_bound body 1; omega)
      obtain ⟨s', hs'⟩ : ∃ s', s' = s ++ [Ob.row [.str nm, .int .i64 line, SL lz lt (locals.map fun x => [V.str x]), SL bz bt (body.map Sp.row)] 35 0 0] := ⟨_, rfl⟩
      have k1 : s'[s.length]? = some (.row [.str nm, .int .i64 line, SL lz lt (locals.map fun x => [V.str x]), SL bz bt (body.map Sp.row)] 35 0 0) := by rw [hs', List.getElem?_append_right (Nat.le_refl _), Nat.sub_self]; rfl
      have k0 : s'[0]? = some (.row [SL dz dt (decls.map Dp.row), SL tz tt (thrs.map Tp.row)] 26 0 0) := by rw [hs']; exact get_app_some hs
      have hrow : Tp.row ⟨nm, line, lz, lt, locals, bz, bt, body⟩ = [.str nm, .int .i64 line, SL lz lt (locals.map fun x => [V.str x]), SL bz bt (body.map Sp.row)] := rfl
      have a1 : binS .add acc [116, 104, 114, 101, 97, 100, 32] = some (.str (acc ++ [116, 104, 114, 101, 97, 100, 32])) := bin_add (by simp; omega) rfl
      have a2 : binS .add (acc ++ [116, 104, 114, 101, 97, 100, 32]) nm = some (.str (acc ++ 116 :: 104 :: 114 :: 101 :: 97 :: 100 :: 32 :: nm)) := bin_add (by simp; omega) (by simp)
      have a3 : binS .add (acc ++ 116 :: 104 :: 114 :: 101 :: 97 :: 100 :: 32 :: nm) [40] = some (.str (acc ++ 116 :: 104 :: 114 :: 101 :: 97 :: 100 :: 32 :: (nm ++ [40]))) := bin_add (by simp; omega) (by simp)
      simp only [go_sem, hs, n2, lt_t h', List.getElem?_map, hx, hrow, ↓a1, ↓a2, ↓a3]
      rw [← hs']
      refine rlocals_w k1 _ (by simp; omega) ?_
      rw [show acc ++ 116 :: 104 :: 114 :: 101 :: 97 :: 100 :: 32 :: (nm ++ [40]) ++ joinE locals = acc ++ 116 :: 104 :: 114 :: 101 :: 97 :: 100 :: 32 :: (nm ++ 40 :: joinE locals) by simp]
      have a4 : binS .add (acc ++ 116 :: 104 :: 114 :: 101 :: 97 :: 100 :: 32 :: (nm ++ 40 :: joinE locals)) [41, 32, 123, 10] = some (.str (acc ++ 116 :: 104 :: 114 :: 101 :: 97 :: 100 :: 32 :: (nm ++ 40 :: (joinE locals ++ [41, 32, 123, 10])))) := bin_add (by simp; omega) (by simp)
      have a5 : binS .add (acc ++ 116 :: 104 :: 114 :: 101 :: 97 :: 100 :: 32 :: (nm ++ 40 :: (joinE locals ++ [41, 32, 123, 10]))) (Sp.txts 1 body) = some (.str (acc ++ 116 :: 104 :: 114 :: 101 :: 97 :: 100 :: 32 :: (nm ++ 40 :: (joinE locals ++ 41 :: 32 :: 123 :: 10 :: Sp.txts 1 body)))) := bin_add (by simp; omega) (by simp)
      have a6 : binS .add (acc ++ 116 :: 104 :: 114 :: 101 :: 97 :: 100 :: 32 :: (nm ++ 40 :: (joinE locals ++ 41 :: 32 :: 123 :: 10 :: Sp.txts 1 body))) [125, 10] = some (.str (acc ++ 116 :: 104 :: 114 :: 101 :: 97 :: 100 :: 32 :: (nm ++ 40 :: (joinE locals ++ 41 :: 32 :: 123 :: 10 :: (Sp.txts 1 body ++ [125, 10]))))) := bin_add (by simp; omega) (by simp)
      simp only [go_sem, k1, ↓a4]
      refine wx_fn hb (by simp only [go_sem]) ?_
      simp only [go_sem, ↓a5, ↓a6, inc64 (show i < 9223372036854775807 by omega)]
      refine W_keep (ih (i + 1, acc ++ thrE ⟨nm, line, lz, lt, locals, bz, bt, body⟩, s') (by simp; omega) ⟨by simp; omega, by simp only; rw [List.append_assoc]; exact hc, k0⟩) (by simp [thrE]; rfl)
    · obtain rfl : i = thrs.length := by omega
      rw [List.drop_eq_nil_of_le h'] at hc
      simp only [List.map_nil, List.flatten_nil, List.append_nil] at hc
      subst hc
      simp only [go_sem, hs, n2, lt_f h']
      exact fr_set rfl
end Go.Proofs.YtlehfgdhebapeaaDoor.KM
