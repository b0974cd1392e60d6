/- Walks: the program's texts of expressions and heads of statements. -/
import Derived.Test.YtlehfgdhebapeaaDoorGe
import Derived.Test.YtlehfgdhebapeaaDoorGc
set_option linter.all false
namespace Go.Proofs.YtlehfgdhebapeaaDoor.KM
open Go
theorem fr_tupeq {vs : List V} {σ : St} {v : V} (h : vs.all setC = true) (he : V.tup vs = v) : FR (.tup vs) σ v := he ▸ fr_tup h
theorem wb_str {s0 s : St} {b : Nat} {l : List UInt8} (h : WB s0 s b l) : ∃ s', strS 65 5 [.ptr b 0 0] s = some (.str l, s') := by
  obtain ⟨⟨u, hu⟩, -⟩ := h
  exact bl_str hu
theorem fexpr_fn {x : Xp} (h : Cn x) (hl : x.txt.length ≤ 10000000000000) : Fn TT PT 16 [.agg x.row] (.str x.txt) := by
  have hset := xset x
  refine Fn_go T16 rfl ?_
  have w0 : WB [.row x.row 40 0 0, .row [.nilp, .nils] 65 0 0] [.row x.row 40 0 0, .row [.nilp, .nils] 65 0 0] 1 [] := by
    refine wb_start (u := .nils) ⟨.nilp, rfl, .inl rfl, gw_nil⟩ ?_
    exact cl_push (cl_row (s := []) (fun _ h => by cases h) (by rw [xrow_def]; simp only [go_sem])) (by simp [Ob.refs, refsL, V.refs])
  obtain ⟨s1, q1, v1⟩ := wexpr_th h _ 1 [] w0 (by simpa using hl)
  obtain ⟨s2, hs2⟩ := wb_str v1
  rw [List.nil_append] at hs2
  rw [xrow_def] at q1 hset ⊢
  simp only [go_sem]
  refine wx_th q1 ?_
  simp only [go_sem]
  refine wx_call (.spec T27 rfl rfl hs2) ?_
  simp only [go_sem]
  exact fr_set rfl
/-- the program's head of a statement -/
theorem fhead_fn {s : Sp} (h : CnS s) (hl : (headE s).length ≤ 10000000000000) : Fn TT PT 50 [.agg s.row] (.tup [.str (headE s), .bool (bodyE s.op)]) := by
  obtain ⟨h1, h2, h3, h4, h5, -, -, -, -⟩ := h
  obtain ⟨op, line, nm, arg, iz, it, idx, ex, bz, bt, body, ez, et, els⟩ := s
  simp only at h1 h2 h3 h4 h5 hl ⊢
  rw [srow_def]
  simp only
  have hw : op = 1 ∨ op = 2 ∨ op = 3 ∨ op = 4 ∨ op = 5 ∨ op = 6 ∨ op = 7 ∨ op = 8 ∨ op = 9 ∨ op = 10 ∨ op = 11 ∨ op = 12 ∨ op = 13 ∨ op = 14 ∨ op = 15 := by omega
  refine Fn_go T50 rfl ?_
  rw [xrow_def]
  rcases hw with rfl | hw
  · have hx := fexpr_fn (h5 (.inl rfl))
    simp only [headE, if_true, List.length_append, List.length_cons] at hl ⊢
    have hx := hx (by omega)
    rw [xrow_def] at hx
    cases idx with
    | nil =>
      simp only [idxE, List.length_nil] at hl ⊢
      have a2 : binS .add nm [32, 61, 32] = some (.str (nm ++ [32, 61, 32])) := bin_add (by simp; omega) rfl
      have a3 : binS .add (nm ++ [32, 61, 32]) ex.txt = some (.str (nm ++ 32 :: 61 :: 32 :: ex.txt)) := bin_add (by simp; omega) (by simp)
      simp only [go_sem, Int.reduceBEq, Int.reduceLT, ↓a2]
      refine wx_fn hx (by simp only [go_sem]) ?_
      simp only [go_sem, ↓a3]
      exact fr_tupeq rfl (by simp [bodyE])
    | cons a r =>
      have ha := fexpr_fn (h4 a List.mem_cons_self)
      simp only [idxE, List.length_cons, List.length_append] at hl ⊢
      have ha := ha (by omega)
      rw [xrow_def] at ha
      have r0 : r = [] := by simpa using h2
      subst r0
      have a1 : binS .add [91] a.txt = some (.str (91 :: a.txt)) := bin_add (by simp; omega) rfl
      have a2 : binS .add (91 :: a.txt) [93] = some (.str (91 :: (a.txt ++ [93]))) := bin_add (by simp; omega) (by simp)
      have a3 : binS .add nm (91 :: (a.txt ++ [93])) = some (.str (nm ++ 91 :: (a.txt ++ [93]))) := bin_add (by simp; omega) rfl
      have a4 : binS .add (nm ++ 91 :: (a.txt ++ [93])) [32, 61, 32] = some (.str (nm ++ 91 :: (a.txt ++ [93, 32, 61, 32]))) := bin_add (by simp; omega) (by simp)
      have a5 : binS .add (nm ++ 91 :: (a.txt ++ [93, 32, 61, 32])) ex.txt = some (.str (nm ++ 91 :: (a.txt ++ 93 :: 32 :: 61 :: 32 :: ex.txt))) := bin_add (by simp; omega) (by simp)
      simp only [List.map_cons, List.map_nil]
      rw [xrow_def a]
      simp only [go_sem, Int.reduceBEq, Int.reduceLT]
      refine wx_fn ha (by simp only [go_sem]) ?_
      simp only [go_sem, ↓a1, ↓a2, ↓a3, ↓a4]
      refine wx_fn hx (by simp only [go_sem]) ?_
      simp only [go_sem, ↓a5]
      exact fr_tupeq rfl (by simp [bodyE])
  -- CASES
  rcases hw with rfl | hw
  · simp only [headE, wordE, bodyE] at hl ⊢
    simp at hl
    have hx := fexpr_fn (h5 (by omega)) (by omega)
    rw [xrow_def] at hx
    have a1 : binS .add ([105, 102, 32]) (ex.txt) = some (.str (105 :: 102 :: 32 :: ex.txt)) := bin_add (by simp; try omega) (by simp)
    simp only [go_sem, Int.reduceBEq, Int.reduceLT]
    refine wx_fn hx (by simp only [go_sem]) ?_
    simp only [go_sem, ↓a1]
    exact fr_tupeq rfl (by simp)
  rcases hw with rfl | hw
  · simp only [headE, wordE, bodyE] at hl ⊢
    simp at hl
    have hx := fexpr_fn (h5 (by omega)) (by omega)
    rw [xrow_def] at hx
    have a1 : binS .add ([119, 104, 105, 108, 101, 32]) (ex.txt) = some (.str (119 :: 104 :: 105 :: 108 :: 101 :: 32 :: ex.txt)) := bin_add (by simp; try omega) (by simp)
    simp only [go_sem, Int.reduceBEq, Int.reduceLT]
    refine wx_fn hx (by simp only [go_sem]) ?_
    simp only [go_sem, ↓a1]
    exact fr_tupeq rfl (by simp)
  rcases hw with rfl | hw
  · simp only [headE, wordE, bodyE] at hl ⊢
    simp at hl
    have a1 : binS .add ([108, 111, 99, 107, 32]) (nm) = some (.str (108 :: 111 :: 99 :: 107 :: 32 :: nm)) := bin_add (by simp; try omega) (by simp)
    simp only [go_sem, Int.reduceBEq, Int.reduceLT, ↓a1]
    exact fr_tupeq rfl (by simp)
  rcases hw with rfl | hw
  · simp only [headE, wordE, bodyE] at hl ⊢
    simp at hl
    have a1 : binS .add ([114, 101, 97, 100, 32]) (nm) = some (.str (114 :: 101 :: 97 :: 100 :: 32 :: nm)) := bin_add (by simp; try omega) (by simp)
    simp only [go_sem, Int.reduceBEq, Int.reduceLT, ↓a1]
    exact fr_tupeq rfl (by simp)
  rcases hw with rfl | hw
  · simp only [headE, wordE, bodyE] at hl ⊢
    simp at hl
    have a1 : binS .add ([119, 114, 105, 116, 101, 32]) (nm) = some (.str (119 :: 114 :: 105 :: 116 :: 101 :: 32 :: nm)) := bin_add (by simp; try omega) (by simp)
    simp only [go_sem, Int.reduceBEq, Int.reduceLT, ↓a1]
    exact fr_tupeq rfl (by simp)
  rcases hw with rfl | hw
  · simp only [headE, wordE, bodyE] at hl ⊢
    simp at hl
    simp only [go_sem, Int.reduceBEq, Int.reduceLT]
    exact fr_tupeq rfl (by simp)
  rcases hw with rfl | hw
  · simp only [headE, wordE, bodyE] at hl ⊢
    simp at hl
    simp only [go_sem, Int.reduceBEq, Int.reduceLT]
    exact fr_tupeq rfl (by simp)
  rcases hw with rfl | hw
  · simp only [headE, wordE, bodyE] at hl ⊢
    simp at hl
    have a1 : binS .add ([119, 97, 105, 116, 32]) (nm) = some (.str (119 :: 97 :: 105 :: 116 :: 32 :: nm)) := bin_add (by simp; try omega) (by simp)
    simp only [go_sem, Int.reduceBEq, Int.reduceLT, ↓a1]
    exact fr_tupeq rfl (by simp)
  rcases hw with rfl | hw
  · simp only [headE, wordE, bodyE] at hl ⊢
    simp at hl
    have a1 : binS .add ([110, 111, 116, 105, 102, 121, 32]) (nm) = some (.str (110 :: 111 :: 116 :: 105 :: 102 :: 121 :: 32 :: nm)) := bin_add (by simp; try omega) (by simp)
    simp only [go_sem, Int.reduceBEq, Int.reduceLT, ↓a1]
    exact fr_tupeq rfl (by simp)
  rcases hw with rfl | hw
  · simp only [headE, wordE, bodyE] at hl ⊢
    simp at hl
    have a1 : binS .add ([110, 111, 116, 105, 102, 121, 97, 108, 108, 32]) (nm) = some (.str (110 :: 111 :: 116 :: 105 :: 102 :: 121 :: 97 :: 108 :: 108 :: 32 :: nm)) := bin_add (by simp; try omega) (by simp)
    simp only [go_sem, Int.reduceBEq, Int.reduceLT, ↓a1]
    exact fr_tupeq rfl (by simp)
  rcases hw with rfl | hw
  · simp only [headE, wordE, bodyE] at hl ⊢
    simp at hl
    have a1 : binS .add ([115, 112, 97, 119, 110, 32]) (nm) = some (.str (115 :: 112 :: 97 :: 119 :: 110 :: 32 :: nm)) := bin_add (by simp; try omega) (by simp)
    simp only [go_sem, Int.reduceBEq, Int.reduceLT, ↓a1]
    exact fr_tupeq rfl (by simp)
  rcases hw with rfl | hw
  · simp only [headE, wordE, bodyE] at hl ⊢
    simp at hl
    have a1 : binS .add ([106, 111, 105, 110, 32]) (nm) = some (.str (106 :: 111 :: 105 :: 110 :: 32 :: nm)) := bin_add (by simp; try omega) (by simp)
    simp only [go_sem, Int.reduceBEq, Int.reduceLT, ↓a1]
    exact fr_tupeq rfl (by simp)
  rcases hw with rfl | hw
  · simp only [headE, wordE, bodyE] at hl ⊢
    simp at hl
    have hx := fexpr_fn (h5 (by omega)) (by omega)
    rw [xrow_def] at hx
    have a1 : binS .add ([115, 101, 116, 32]) (nm) = some (.str (115 :: 101 :: 116 :: 32 :: nm)) := bin_add (by simp; try omega) (by simp)
    have a2 : binS .add (115 :: 101 :: 116 :: 32 :: nm) ([32]) = some (.str (115 :: 101 :: 116 :: 32 :: (nm ++ [32]))) := bin_add (by simp; try omega) (by simp)
    have a3 : binS .add (115 :: 101 :: 116 :: 32 :: (nm ++ [32])) (ex.txt) = some (.str (115 :: 101 :: 116 :: 32 :: (nm ++ 32 :: ex.txt))) := bin_add (by simp; try omega) (by simp)
    simp only [go_sem, Int.reduceBEq, Int.reduceLT]
    refine w_drw (by kernel_rfl) ?_
    simp only [go_sem, ↓a1, ↓a2]
    refine wgx_fn hx (by simp only [go_sem]) ?_
    simp only [go_sem, ↓a3]
    exact fr_tupeq rfl (by simp)
  subst hw
  simp only [headE, wordE, bodyE] at hl ⊢
  simp at hl
  have a1 : binS .add ([103, 101, 116, 32]) (nm) = some (.str (103 :: 101 :: 116 :: 32 :: nm)) := bin_add (by simp; try omega) (by simp)
  have a2 : binS .add (103 :: 101 :: 116 :: 32 :: nm) ([32]) = some (.str (103 :: 101 :: 116 :: 32 :: (nm ++ [32]))) := bin_add (by simp; try omega) (by simp)
  have a3 : binS .add (103 :: 101 :: 116 :: 32 :: (nm ++ [32])) (arg) = some (.str (103 :: 101 :: 116 :: 32 :: (nm ++ 32 :: arg))) := bin_add (by simp; try omega) (by simp)
  simp only [go_sem, Int.reduceBEq, Int.reduceLT, ↓a1, ↓a2, ↓a3]
  exact fr_tupeq rfl (by simp)
end Go.Proofs.YtlehfgdhebapeaaDoor.KM
