/- Walks: the reference's texts of statements. -/
import Derived.Test.YtlehfgdhebapeaaDoorGb
set_option linter.all false
namespace Go.Proofs.YtlehfgdhebapeaaDoor.KM
open Go
theorem xrow_len (x : Xp) : x.row.length = 4 := by rw [xrow_def]; rfl
theorem srow_len (s : Sp) : s.row.length = 11 := by rw [srow_def, xrow_def]; rfl
theorem sset (s : Sp) : setC (.agg s.row) = true := by
  rw [srow_def, xrow_def]
  simp only [go_sem]
theorem stake (s : Sp) : s.row.take 11 = s.row := List.take_of_length_le (by rw [srow_len]; omega)
theorem indent_fn (d : Nat) (hd : d ≤ 100000000000000) : Fn TT PT 37 [.int .i64 (d : Int)] (.str (indE d)) := by
  refine Fn_go T37 rfl ?_
  simp only [go_sem]
  refine loop_w (α := Nat) (fun i => d - i) (fun i => [(0, .int .i64 (d : Int)), (3, .str (indE i)), (4, .int .i64 (i : Int))]) (fun _ => []) (fun i => i ≤ d) ?_ 0 (Nat.zero_le _)
  rintro i hi ih
  refine w_rep (by delta lp37_0; exact rfl) ?_
  rcases Nat.lt_or_ge i d with h | h
  · have a1 : binS .add (indE i) [32, 32] = some (.str (indE (i + 1))) := bin_add (by simp [indE]; omega) (by
      unfold indE
      rw [show 2 * (i + 1) = 2 * i + 2 by omega, ← List.replicate_append_replicate]
      rfl)
    simp only [go_sem, lt_t h, ↓a1, inc64 (show i < 9223372036854775807 by omega)]
    exact W_keep (ih (i + 1) (by omega) (by omega)) rfl
  · obtain rfl : i = d := by omega
    simp only [go_sem, lt_f h]
    exact fr_set rfl
theorem ind_len (d : Nat) : (indE d).length = 2 * d := by simp [indE]
def endE (op : Int) : List UInt8 := if bodyE op then [32, 123] else [59]
theorem idxE_len (l : List Xp) : (idxE l).length ≤ (match l with | a :: _ => a.txt.length + 2 | [] => 0) := by
  cases l <;> simp [idxE]
/-- the reference's head of a statement -/
theorem rhead_fn {s : Sp} (h : CnS s) (hl : (headE s).length ≤ 100000000000000) : Fn TT PT 38 [.agg s.row] (.str (headE s ++ endE s.op)) := by
  obtain ⟨h1, h2, h3, h4, h5, -, -, -, -⟩ := h
  obtain ⟨op, line, nm, arg, iz, it, idx, ex, bz, bt, body, ez, et, els⟩ := s
  simp only at h1 h2 h3 h4 h5 hl ⊢
  rw [srow_def]
  simp only
  have hw : op = 1 ∨ op = 2 ∨ op = 3 ∨ op = 4 ∨ op = 5 ∨ op = 6 ∨ op = 7 ∨ op = 8 ∨ op = 9 ∨ op = 10 ∨ op = 11 ∨ op = 12 ∨ op = 13 ∨ op = 14 ∨ op = 15 := by omega
  refine Fn_go T38 rfl ?_
  rw [xrow_def]
  rcases hw with rfl | hw
  · have hx := rexpr_fn (h5 (.inl rfl))
    simp only [headE, if_true, List.length_append, List.length_cons] at hl ⊢
    have hx := hx (by omega)
    rw [xrow_def] at hx
    cases idx with
    | nil =>
      simp only [idxE, List.length_nil] at hl ⊢
      have a1 : binS .add nm [] = some (.str nm) := bin_add (by simp; omega) (by simp)
      have a2 : binS .add nm [32, 61, 32] = some (.str (nm ++ [32, 61, 32])) := bin_add (by simp; omega) rfl
      have a3 : binS .add (nm ++ [32, 61, 32]) ex.txt = some (.str (nm ++ 32 :: 61 :: 32 :: ex.txt)) := bin_add (by simp; omega) (by simp)
      have a4 : binS .add (nm ++ 32 :: 61 :: 32 :: ex.txt) [59] = some (.str (nm ++ 32 :: 61 :: 32 :: (ex.txt ++ [59]))) := bin_add (by simp; omega) (by simp)
      simp only [go_sem, Int.reduceBEq, Int.reduceLT]
      refine w_drw (by kernel_rfl) ?_
      simp only [go_sem, ↓a1, ↓a2]
      refine wgx_fn hx (by simp only [go_sem]) ?_
      simp only [go_sem, ↓a3, ↓a4]
      exact fr_eq rfl (by simp [endE, bodyE])
    | cons a r =>
      have ha := rexpr_fn (h4 a List.mem_cons_self)
      simp only [idxE, List.length_cons, List.length_append] at hl ⊢
      have ha := ha (by omega)
      rw [xrow_def] at ha
      have r0 : r = [] := by simpa using h2
      subst r0
      have a1 : binS .add [91] a.txt = some (.str (91 :: a.txt)) := bin_add (by simp; omega) rfl
      have a2 : binS .add (91 :: a.txt) [93] = some (.str (91 :: (a.txt ++ [93]))) := bin_add (by simp; omega) (by simp)
      have a3 : binS .add nm (91 :: (a.txt ++ [93])) = some (.str (nm ++ 91 :: (a.txt ++ [93]))) := bin_add (by simp; omega) rfl
      have a4 : binS .add (nm ++ 91 :: (a.txt ++ [93])) [32, 61, 32] = some (.str (nm ++ 91 :: (a.txt ++ [93, 32, 61, 32]))) := bin_add (by simp; omega) (by simp)
      have a5 : binS .add (nm ++ 91 :: (a.txt ++ [93, 32, 61, 32])) ex.txt = some (.str (nm ++ 91 :: (a.txt ++ 93 :: 32 :: 61 :: 32 :: ex.txt))) := bin_add (by simp; omega) (by simp)
      have a6 : binS .add (nm ++ 91 :: (a.txt ++ 93 :: 32 :: 61 :: 32 :: ex.txt)) [59] = some (.str (nm ++ 91 :: (a.txt ++ 93 :: 32 :: 61 :: 32 :: (ex.txt ++ [59])))) := bin_add (by simp; omega) (by simp)
      simp only [List.map_cons, List.map_nil]
      rw [xrow_def a]
      simp only [go_sem, Int.reduceBEq, Int.reduceLT]
      refine wx_fn ha (by simp only [go_sem]) ?_
      simp only [go_sem, ↓a1, ↓a2]
      refine w_drw (by kernel_rfl) ?_
      simp only [go_sem, ↓a3, ↓a4]
      refine wgx_fn hx (by simp only [go_sem]) ?_
      simp only [go_sem, ↓a5, ↓a6]
      exact fr_eq rfl (by simp [endE, bodyE])
  -- CASES
  rcases hw with rfl | hw
  · simp only [headE, wordE, endE, bodyE] at hl ⊢
    simp at hl
    have hx := rexpr_fn (h5 (by omega)) (by omega)
    rw [xrow_def] at hx
    have a1 : binS .add ([105, 102, 32]) (ex.txt) = some (.str (105 :: 102 :: 32 :: ex.txt)) := bin_add (by simp; try omega) (by simp)
    have a2 : binS .add (105 :: 102 :: 32 :: ex.txt) ([32, 123]) = some (.str (105 :: 102 :: 32 :: (ex.txt ++ [32, 123]))) := bin_add (by simp; try omega) (by simp)
    simp only [go_sem, Int.reduceBEq, Int.reduceLT]
    refine wx_fn hx (by simp only [go_sem]) ?_
    simp only [go_sem, ↓a1, ↓a2]
    exact fr_eq rfl (by simp)
  rcases hw with rfl | hw
  · simp only [headE, wordE, endE, bodyE] at hl ⊢
    simp at hl
    have hx := rexpr_fn (h5 (by omega)) (by omega)
    rw [xrow_def] at hx
    have a1 : binS .add ([119, 104, 105, 108, 101, 32]) (ex.txt) = some (.str (119 :: 104 :: 105 :: 108 :: 101 :: 32 :: ex.txt)) := bin_add (by simp; try omega) (by simp)
    have a2 : binS .add (119 :: 104 :: 105 :: 108 :: 101 :: 32 :: ex.txt) ([32, 123]) = some (.str (119 :: 104 :: 105 :: 108 :: 101 :: 32 :: (ex.txt ++ [32, 123]))) := bin_add (by simp; try omega) (by simp)
    simp only [go_sem, Int.reduceBEq, Int.reduceLT]
    refine wx_fn hx (by simp only [go_sem]) ?_
    simp only [go_sem, ↓a1, ↓a2]
    exact fr_eq rfl (by simp)
  rcases hw with rfl | hw
  · simp only [headE, wordE, endE, bodyE] at hl ⊢
    simp at hl
    have a1 : binS .add ([108, 111, 99, 107, 32]) (nm) = some (.str (108 :: 111 :: 99 :: 107 :: 32 :: nm)) := bin_add (by simp; try omega) (by simp)
    have a2 : binS .add (108 :: 111 :: 99 :: 107 :: 32 :: nm) ([32, 123]) = some (.str (108 :: 111 :: 99 :: 107 :: 32 :: (nm ++ [32, 123]))) := bin_add (by simp; try omega) (by simp)
    simp only [go_sem, Int.reduceBEq, Int.reduceLT, ↓a1, ↓a2]
    exact fr_eq rfl (by simp)
  rcases hw with rfl | hw
  · simp only [headE, wordE, endE, bodyE] at hl ⊢
    simp at hl
    have a1 : binS .add ([114, 101, 97, 100, 32]) (nm) = some (.str (114 :: 101 :: 97 :: 100 :: 32 :: nm)) := bin_add (by simp; try omega) (by simp)
    have a2 : binS .add (114 :: 101 :: 97 :: 100 :: 32 :: nm) ([32, 123]) = some (.str (114 :: 101 :: 97 :: 100 :: 32 :: (nm ++ [32, 123]))) := bin_add (by simp; try omega) (by simp)
    simp only [go_sem, Int.reduceBEq, Int.reduceLT, ↓a1, ↓a2]
    exact fr_eq rfl (by simp)
  rcases hw with rfl | hw
  · simp only [headE, wordE, endE, bodyE] at hl ⊢
    simp at hl
    have a1 : binS .add ([119, 114, 105, 116, 101, 32]) (nm) = some (.str (119 :: 114 :: 105 :: 116 :: 101 :: 32 :: nm)) := bin_add (by simp; try omega) (by simp)
    have a2 : binS .add (119 :: 114 :: 105 :: 116 :: 101 :: 32 :: nm) ([32, 123]) = some (.str (119 :: 114 :: 105 :: 116 :: 101 :: 32 :: (nm ++ [32, 123]))) := bin_add (by simp; try omega) (by simp)
    simp only [go_sem, Int.reduceBEq, Int.reduceLT, ↓a1, ↓a2]
    exact fr_eq rfl (by simp)
  rcases hw with rfl | hw
  · simp only [headE, wordE, endE, bodyE] at hl ⊢
    simp at hl
    simp only [go_sem, Int.reduceBEq, Int.reduceLT]
    exact fr_eq rfl (by simp)
  rcases hw with rfl | hw
  · simp only [headE, wordE, endE, bodyE] at hl ⊢
    simp at hl
    simp only [go_sem, Int.reduceBEq, Int.reduceLT]
    exact fr_eq rfl (by simp)
  rcases hw with rfl | hw
  · simp only [headE, wordE, endE, bodyE] at hl ⊢
    simp at hl
    have a1 : binS .add ([119, 97, 105, 116, 32]) (nm) = some (.str (119 :: 97 :: 105 :: 116 :: 32 :: nm)) := bin_add (by simp; try omega) (by simp)
    have a2 : binS .add (119 :: 97 :: 105 :: 116 :: 32 :: nm) ([59]) = some (.str (119 :: 97 :: 105 :: 116 :: 32 :: (nm ++ [59]))) := bin_add (by simp; try omega) (by simp)
    simp only [go_sem, Int.reduceBEq, Int.reduceLT, ↓a1, ↓a2]
    exact fr_eq rfl (by simp)
  rcases hw with rfl | hw
  · simp only [headE, wordE, endE, bodyE] at hl ⊢
    simp at hl
    have a1 : binS .add ([110, 111, 116, 105, 102, 121, 32]) (nm) = some (.str (110 :: 111 :: 116 :: 105 :: 102 :: 121 :: 32 :: nm)) := bin_add (by simp; try omega) (by simp)
    have a2 : binS .add (110 :: 111 :: 116 :: 105 :: 102 :: 121 :: 32 :: nm) ([59]) = some (.str (110 :: 111 :: 116 :: 105 :: 102 :: 121 :: 32 :: (nm ++ [59]))) := bin_add (by simp; try omega) (by simp)
    simp only [go_sem, Int.reduceBEq, Int.reduceLT, ↓a1, ↓a2]
    exact fr_eq rfl (by simp)
  rcases hw with rfl | hw
  · simp only [headE, wordE, endE, bodyE] at hl ⊢
    simp at hl
    have a1 : binS .add ([110, 111, 116, 105, 102, 121, 97, 108, 108, 32]) (nm) = some (.str (110 :: 111 :: 116 :: 105 :: 102 :: 121 :: 97 :: 108 :: 108 :: 32 :: nm)) := bin_add (by simp; try omega) (by simp)
    have a2 : binS .add (110 :: 111 :: 116 :: 105 :: 102 :: 121 :: 97 :: 108 :: 108 :: 32 :: nm) ([59]) = some (.str (110 :: 111 :: 116 :: 105 :: 102 :: 121 :: 97 :: 108 :: 108 :: 32 :: (nm ++ [59]))) := bin_add (by simp; try omega) (by simp)
    simp only [go_sem, Int.reduceBEq, Int.reduceLT, ↓a1, ↓a2]
    exact fr_eq rfl (by simp)
  rcases hw with rfl | hw
  · simp only [headE, wordE, endE, bodyE] at hl ⊢
    simp at hl
    have a1 : binS .add ([115, 112, 97, 119, 110, 32]) (nm) = some (.str (115 :: 112 :: 97 :: 119 :: 110 :: 32 :: nm)) := bin_add (by simp; try omega) (by simp)
    have a2 : binS .add (115 :: 112 :: 97 :: 119 :: 110 :: 32 :: nm) ([59]) = some (.str (115 :: 112 :: 97 :: 119 :: 110 :: 32 :: (nm ++ [59]))) := bin_add (by simp; try omega) (by simp)
    simp only [go_sem, Int.reduceBEq, Int.reduceLT, ↓a1, ↓a2]
    exact fr_eq rfl (by simp)
  rcases hw with rfl | hw
  · simp only [headE, wordE, endE, bodyE] at hl ⊢
    simp at hl
    have a1 : binS .add ([106, 111, 105, 110, 32]) (nm) = some (.str (106 :: 111 :: 105 :: 110 :: 32 :: nm)) := bin_add (by simp; try omega) (by simp)
    have a2 : binS .add (106 :: 111 :: 105 :: 110 :: 32 :: nm) ([59]) = some (.str (106 :: 111 :: 105 :: 110 :: 32 :: (nm ++ [59]))) := bin_add (by simp; try omega) (by simp)
    simp only [go_sem, Int.reduceBEq, Int.reduceLT, ↓a1, ↓a2]
    exact fr_eq rfl (by simp)
  rcases hw with rfl | hw
  · simp only [headE, wordE, endE, bodyE] at hl ⊢
    simp at hl
    have hx := rexpr_fn (h5 (by omega)) (by omega)
    rw [xrow_def] at hx
    have a1 : binS .add ([115, 101, 116, 32]) (nm) = some (.str (115 :: 101 :: 116 :: 32 :: nm)) := bin_add (by simp; try omega) (by simp)
    have a2 : binS .add (115 :: 101 :: 116 :: 32 :: nm) ([32]) = some (.str (115 :: 101 :: 116 :: 32 :: (nm ++ [32]))) := bin_add (by simp; try omega) (by simp)
    have a3 : binS .add (115 :: 101 :: 116 :: 32 :: (nm ++ [32])) (ex.txt) = some (.str (115 :: 101 :: 116 :: 32 :: (nm ++ 32 :: ex.txt))) := bin_add (by simp; try omega) (by simp)
    have a4 : binS .add (115 :: 101 :: 116 :: 32 :: (nm ++ 32 :: ex.txt)) ([59]) = some (.str (115 :: 101 :: 116 :: 32 :: (nm ++ 32 :: (ex.txt ++ [59])))) := bin_add (by simp; try omega) (by simp)
    simp only [go_sem, Int.reduceBEq, Int.reduceLT]
    refine w_drw (by kernel_rfl) ?_
    simp only [go_sem, ↓a1, ↓a2]
    refine wgx_fn hx (by simp only [go_sem]) ?_
    simp only [go_sem, ↓a3, ↓a4]
    exact fr_eq rfl (by simp)
  subst hw
  simp only [headE, wordE, endE, bodyE] at hl ⊢
  simp at hl
  have a1 : binS .add ([103, 101, 116, 32]) (nm) = some (.str (103 :: 101 :: 116 :: 32 :: nm)) := bin_add (by simp; try omega) (by simp)
  have a2 : binS .add (103 :: 101 :: 116 :: 32 :: nm) ([32]) = some (.str (103 :: 101 :: 116 :: 32 :: (nm ++ [32]))) := bin_add (by simp; try omega) (by simp)
  have a3 : binS .add (103 :: 101 :: 116 :: 32 :: (nm ++ [32])) (arg) = some (.str (103 :: 101 :: 116 :: 32 :: (nm ++ 32 :: arg))) := bin_add (by simp; try omega) (by simp)
  have a4 : binS .add (103 :: 101 :: 116 :: 32 :: (nm ++ 32 :: arg)) ([59]) = some (.str (103 :: 101 :: 116 :: 32 :: (nm ++ 32 :: (arg ++ [59])))) := bin_add (by simp; try omega) (by simp)
  simp only [go_sem, Int.reduceBEq, Int.reduceLT, ↓a1, ↓a2, ↓a3, ↓a4]
  exact fr_eq rfl (by simp)
/-- a list of statements -/
theorem stxts_cons (d : Nat) (x : Sp) (l : List Sp) : Sp.txts d (x :: l) = x.txt d ++ Sp.txts d l := by rw [Sp.txts]
theorem rstmts_fn (z : Bool) (t d : Nat) (l : List Sp) (h : ∀ s ∈ l, Fn TT PT 14 [.agg s.row, .int .i64 (d : Int)] (.str (s.txt d))) (hl : (Sp.txts d l).length ≤ 100000000000000) (hll : l.length ≤ 9223372036854775806) : Fn TT PT 29 [SL z t (l.map Sp.row), .int .i64 (d : Int)] (.str (Sp.txts d l)) := by
  refine Fn_go T29 rfl ?_
  have hlm : (l.map Sp.row).length = l.length := List.length_map ..
  simp only [go_sem]
  refine loop_w (α := Nat × List UInt8) (fun a => l.length - a.1) (fun a => [(0, SL z t (l.map Sp.row)), (1, .int .i64 (d : Int)), (5, .str a.2), (6, .int .i64 (a.1 : Int))]) (fun _ => []) (fun a => a.1 ≤ l.length ∧ a.2 ++ Sp.txts d (l.drop a.1) = Sp.txts d l) ?_ (0, []) ⟨Nat.zero_le _, rfl⟩
  rintro ⟨i, acc⟩ ⟨hi, hacc⟩ ih
  simp only at hi hacc ih
  refine w_rep (by delta lp29_0; exact rfl) ?_
  rcases Nat.lt_or_ge i l.length with h' | h'
  · obtain ⟨x, hx, hd, hm⟩ := at_some h'
    rw [hd, stxts_cons] at hacc
    have hlen := congrArg List.length hacc
    simp only [List.length_append] at hlen
    have hr := srow_len x
    have ht := stake x
    have a1 : binS .add acc (x.txt d) = some (.str (acc ++ x.txt d)) := bin_add (by omega) rfl
    simp only [go_sem, hlm, lt_t h', List.getElem?_map, hx, hr, ht]
    refine wx_fn (h x hm) (by simp only [List.all_cons, List.all_nil, Bool.and_true, sset x, sc_i]) ?_
    simp only [go_sem, ↓a1, inc64 (show i < 9223372036854775807 by omega)]
    exact W_keep (ih (i + 1, acc ++ x.txt d) (by simp; omega) ⟨by simp; omega, by simp only; rw [List.append_assoc]; exact hacc⟩) rfl
  · obtain rfl : i = l.length := by omega
    rw [List.drop_eq_nil_of_le h', show Sp.txts d [] = [] by rw [Sp.txts], List.append_nil] at hacc
    rw [← hacc]
    simp only [go_sem, hlm, lt_f h']
    exact fr_set rfl
theorem stxt_eq (d : Nat) (s : Sp) : s.txt d = indE d ++ (headE s ++ if bodyE s.op then 32 :: 123 :: 10 :: (Sp.txts (d + 1) s.body ++ ((if s.els.isEmpty then [] else indE d ++ 125 :: 32 :: 101 :: 108 :: 115 :: 101 :: 32 :: 123 :: 10 :: Sp.txts (d + 1) s.els) ++ (indE d ++ [125, 10]))) else [59, 10]) := by
  obtain ⟨op, line, nm, arg, iz, it, idx, ex, bz, bt, body, ez, et, els⟩ := s
  rw [Sp.txt]
theorem stxts_mem (d : Nat) : ∀ {l : List Sp} {x : Sp}, x ∈ l → (x.txt d).length ≤ (Sp.txts d l).length
  | y :: l, x, h => by
    rw [stxts_cons, List.length_append]
    rcases List.mem_cons.1 h with rfl | h
    · omega
    · have := stxts_mem d h; omega
theorem list_bound (l : List Sp) (d : Nat) : l.length ≤ (Sp.txts d l).length := by
  induction l with
  | nil => simp
  | cons x l ih =>
    rw [stxts_cons, List.length_append, stxt_eq]
    simp only [List.length_append, List.length_cons]
    split
    · simp; omega
    · simp; omega
theorem rstmtI_fn {s : Sp} (h : CnS s) : ∀ (d : Nat) (D : Int), max D 0 = (d : Int) → (s.txt d).length ≤ 100000000000000 → Fn TT PT 14 [.agg s.row, .int .i64 D] (.str (s.txt d)) := by
  induction h with
  | @mk s h1 h2 h3 h4 h5 h6 h7 h8 h9 ihb ihe =>
    intro d D mx hl
    have hs : CnS s := .mk h1 h2 h3 h4 h5 h6 h7 h8 h9
    rw [stxt_eq] at hl ⊢
    simp only [List.length_append, ind_len] at hl
    have hh := rhead_fn hs (by omega)
    have hi := indent_fn d (by omega)
    have hset := sset s
    have hop := h1
    generalize hH : headE s = H at hl hh ⊢
    have g1 : (s.op < 1) = False := eq_false (by omega)
    have g2 : (15 < s.op) = False := eq_false (by omega)
    refine Fn_go T14 rfl ?_
    rw [srow_def, xrow_def] at hh hset ⊢
    simp only [List.cons_append, List.nil_append] at hh hset ⊢
    cases hb : bodyE s.op
    · have g3 : (s.op < 2) = True ∧ (s.op < 2) = True ∨ (s.op < 2) = False ∧ (8 < s.op) = True := by
        unfold bodyE at hb
        by_cases hlt : s.op < 2
        · exact .inl ⟨eq_true hlt, eq_true hlt⟩
        · refine .inr ⟨eq_false hlt, eq_true ?_⟩
          have : ¬ s.op ≤ 8 := fun h8 => by
            rw [decide_eq_true (by omega), decide_eq_true h8] at hb
            cases hb
          omega
      simp only [endE, hb] at hh
      have a1 : binS .add (indE d) (H ++ [59]) = some (.str (indE d ++ (H ++ [59]))) := bin_add (by simp [ind_len]; omega) rfl
      have a2 : binS .add (indE d ++ (H ++ [59])) [10] = some (.str (indE d ++ (H ++ [59, 10]))) := bin_add (by simp [ind_len]; omega) (by simp)
      rcases g3 with ⟨g3, g4⟩ | ⟨g3, g4⟩
      all_goals
        simp only [go_sem, g1, g2, mx]
        refine wx_fn hi (by simp only [go_sem]) ?_
        simp only [go_sem]
        refine wx_fn hh (by simp only [go_sem]) ?_
        simp only [go_sem, ↓a1, ↓a2, g3, g4]
        exact fr_eq rfl (by simp)
    · rw [hb] at hl
      rw [if_pos rfl] at hl ⊢
      simp only [List.length_cons, List.length_append, ind_len, List.length_nil] at hl
      have hle := list_bound s.body (d + 1)
      have hbd := rstmts_fn s.bz s.bt (d + 1) s.body (fun x hx => ihb x hx (d + 1) _ (by omega) (by have := stxts_mem (d + 1) hx; omega)) (by omega) (by omega)
      have hle2 := list_bound s.els (d + 1)
      have g3 : (s.op < 2) = False ∧ (8 < s.op) = False := by
        unfold bodyE at hb
        simp only [Bool.and_eq_true, decide_eq_true_eq] at hb
        exact ⟨eq_false (by omega), eq_false (by omega)⟩
      obtain ⟨g3, g4⟩ := g3
      simp only [endE, hb, if_true] at hh
      have hil := ind_len d
      have hinc := inc64 (show d < 9223372036854775807 by omega)
      have hbn : (s.body.map Sp.row).length = s.body.length := List.length_map ..
      have hen : (s.els.map Sp.row).length = s.els.length := List.length_map ..
      generalize hT : indE d = T at hl hi hil ⊢
      generalize hBB : Sp.txts (d + 1) s.body = B at hl hbd hle ⊢
      have a1 : binS .add T (H ++ [32, 123]) = some (.str (T ++ (H ++ [32, 123]))) := bin_add (by simp; omega) rfl
      have a2 : binS .add (T ++ (H ++ [32, 123])) [10] = some (.str (T ++ (H ++ [32, 123, 10]))) := bin_add (by simp; omega) (by simp)
      have a3 : binS .add (T ++ (H ++ [32, 123, 10])) B = some (.str (T ++ (H ++ 32 :: 123 :: 10 :: B))) := bin_add (by simp; omega) (by simp)
      have a4 : binS .add (T ++ (H ++ 32 :: 123 :: 10 :: B)) T = some (.str (T ++ (H ++ 32 :: 123 :: 10 :: (B ++ T)))) := bin_add (by simp; omega) (by simp)
      cases hels : s.els with
      | nil =>
        rw [hels] at hl hen hh
        simp only [List.map_nil] at hh
        have e0 : ((0 : Int) < ((([] : List Sp).map Sp.row).length : Int)) = False := eq_false (by simp)
        have a5 : binS .add (T ++ (H ++ 32 :: 123 :: 10 :: (B ++ T))) [125, 10] = some (.str (T ++ (H ++ 32 :: 123 :: 10 :: (B ++ (T ++ [125, 10]))))) := bin_add (by simp; omega) (by simp)
        simp only [go_sem, g1, g2, mx]
        refine wx_fn hi (by simp only [go_sem]) ?_
        simp only [go_sem]
        refine wx_fn hh (by simp only [go_sem]) ?_
        simp only [go_sem, ↓a1, ↓a2, g3, g4, hinc]
        refine wx_fn hbd (by simp only [go_sem]) ?_
        simp only [go_sem, ↓a3, Int.reduceLT, ↓a4, ↓a5]
        exact fr_eq rfl (by simp)
      | cons y ys =>
        rw [hels] at hl hen hle2 hh
        simp only [List.map_cons] at hh
        have hed := rstmts_fn s.ez s.et (d + 1) (y :: ys) (fun x hx => ihe x (by rw [hels]; exact hx) (d + 1) _ (by omega) (by have := stxts_mem (d + 1) hx; simp at hl; omega)) (by simp at hl; omega) (by simp at hl; omega)
        simp only [List.map_cons] at hed
        have e0 : ((0 : Int) < ((ys.length + 1 : Nat) : Int)) = True := eq_true (by omega)
        generalize hEE : Sp.txts (d + 1) (y :: ys) = E at hl hed hle2 ⊢
        simp only [List.isEmpty_cons, Bool.false_eq_true, if_false, List.length_append, List.length_cons] at hl
        have a5 : binS .add (T ++ (H ++ 32 :: 123 :: 10 :: (B ++ T))) [125, 32, 101, 108, 115, 101, 32, 123, 10] = some (.str (T ++ (H ++ 32 :: 123 :: 10 :: (B ++ (T ++ [125, 32, 101, 108, 115, 101, 32, 123, 10]))))) := bin_add (by simp; omega) (by simp)
        have a6 : binS .add (T ++ (H ++ 32 :: 123 :: 10 :: (B ++ (T ++ [125, 32, 101, 108, 115, 101, 32, 123, 10])))) E = some (.str (T ++ (H ++ 32 :: 123 :: 10 :: (B ++ (T ++ 125 :: 32 :: 101 :: 108 :: 115 :: 101 :: 32 :: 123 :: 10 :: E))))) := bin_add (by simp; omega) (by simp)
        have a7 : binS .add (T ++ (H ++ 32 :: 123 :: 10 :: (B ++ (T ++ 125 :: 32 :: 101 :: 108 :: 115 :: 101 :: 32 :: 123 :: 10 :: E)))) T = some (.str (T ++ (H ++ 32 :: 123 :: 10 :: (B ++ (T ++ 125 :: 32 :: 101 :: 108 :: 115 :: 101 :: 32 :: 123 :: 10 :: (E ++ T)))))) := bin_add (by simp; omega) (by simp)
        have a8 : binS .add (T ++ (H ++ 32 :: 123 :: 10 :: (B ++ (T ++ 125 :: 32 :: 101 :: 108 :: 115 :: 101 :: 32 :: 123 :: 10 :: (E ++ T))))) [125, 10] = some (.str (T ++ (H ++ 32 :: 123 :: 10 :: (B ++ (T ++ 125 :: 32 :: 101 :: 108 :: 115 :: 101 :: 32 :: 123 :: 10 :: (E ++ (T ++ [125, 10]))))))) := bin_add (by simp; omega) (by simp)
        simp only [go_sem, g1, g2, mx]
        refine wx_fn hi (by simp only [go_sem]) ?_
        simp only [go_sem]
        refine wx_fn hh (by simp only [go_sem]) ?_
        simp only [go_sem, ↓a1, ↓a2, g3, g4, hinc]
        refine wx_fn hbd (by simp only [go_sem]) ?_
        simp only [go_sem, ↓a3, List.length_map, e0, ↓a4, ↓a5, hinc]
        refine wx_fn hed (by simp only [go_sem, List.map_cons]) ?_
        simp only [go_sem, ↓a6, ↓a7, ↓a8]
        exact fr_eq rfl (by simp)
theorem rstmt_fn {s : Sp} (h : CnS s) (d : Nat) (hl : (s.txt d).length ≤ 100000000000000) : Fn TT PT 14 [.agg s.row, .int .i64 (d : Int)] (.str (s.txt d)) := rstmtI_fn h d _ (by omega) hl
end Go.Proofs.YtlehfgdhebapeaaDoor.KM
