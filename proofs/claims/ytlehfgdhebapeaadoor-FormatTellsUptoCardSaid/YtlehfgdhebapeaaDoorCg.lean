/- Programs out of what a row reads. -/
import Derived.Test.YtlehfgdhebapeaaDoorCf
import Derived.Test.YtlehfgdhebapeaaDoorMc
set_option linter.all false
namespace Go.Proofs.YtlehfgdhebapeaaDoor
open Go.ChangeShapes Go.WideShapes Go.ChangeAt Go.RowKit KM
theorem rows_mapQ {α : Type} {f : α → List V} {Q : α → Prop} : ∀ {xs : List (List V)}, (∀ i, i < xs.length → ∃ a, xs.getD i [] = f a ∧ Q a) → ∃ l : List α, xs = l.map f ∧ ∀ a ∈ l, Q a
  | [], _ => ⟨[], rfl, fun a h => by simp at h⟩
  | x :: xs, h => by
    obtain ⟨a, ha, hq⟩ := h 0 (by simp)
    obtain ⟨l, hl, hQ⟩ := rows_mapQ (xs := xs) fun i hi => h (i + 1) (by simpa using hi)
    refine ⟨a :: l, by rw [hl]; simp at ha; simp [ha], fun b hb => ?_⟩
    rcases List.mem_cons.1 hb with rfl | hb
    · exact hq
    · exact hQ b hb
theorem bulk_get : ∀ (xs : List (List V)) (i : Nat), i < xs.length → bulkRow (xs.getD i []) ≤ bulkRows xs
  | x :: xs, 0, _ => by simp only [List.getD_cons_zero, bulkRows]; omega
  | x :: xs, i + 1, h => by
    have := bulk_get xs i (by simpa using h)
    simp only [List.getD_cons_succ, bulkRows]
    omega
theorem hasT_listQ {P : Program} {t e : TypeId} {α : Type} {f : α → List V} {Q : α → Prop} {pcs : List V} (n : Nat) (hu : P.underlying t = some (.slice e)) (h : HasT P t pcs) (hn : bulkRow pcs ≤ n) (hf : ∀ r, bulkRow r < n → HasT P e r → ∃ a, r = f a ∧ Q a) : ∃ z u, ∃ l : List α, pcs = [SL z u (l.map f)] ∧ ∀ a ∈ l, Q a := by
  rcases hasT_slice hu h with rfl | ⟨xs, rfl, hl, hT⟩
  · exact ⟨true, 0, [], rfl, fun a h => by simp at h⟩
  · have hb : bulkRow [V.lst 0 xs] = bulkRows xs + 1 := by simp only [bulkRow, V.bulk] <;> omega
    obtain ⟨l, rfl, hQ⟩ := rows_mapQ (f := f) (Q := Q) fun i hi => hf _ (by have := bulk_get xs i hi; omega) (hT i hi)
    exact ⟨false, 0, l, by simp [SL], hQ⟩
theorem parts6 {α : Type} {ps : List (List α)} (h : ps.length = 6) : ∃ a b c d e f, ps = [a, b, c, d, e, f] := by
  match ps, h with
  | [a, b, c, d, e, f], _ => exact ⟨a, b, c, d, e, f, rfl⟩
theorem parts8 {α : Type} {ps : List (List α)} (h : ps.length = 8) : ∃ a b c d e f g k, ps = [a, b, c, d, e, f, g, k] := by
  match ps, h with
  | [a, b, c, d, e, f, g, k], _ => exact ⟨a, b, c, d, e, f, g, k, rfl⟩
theorem i64_rg {n : Int} (hw : (Lit.int .i64 n).wf = true) : -9223372036854775808 ≤ n ∧ n ≤ 9223372036854775807 := by
  simp only [Lit.wf, Bool.and_eq_true, decide_eq_true_eq] at hw
  exact hw
theorem x_of : ∀ (n : Nat) {r : List V}, bulkRow r < n → HasT Tryd.prog 40 r → ∃ x : Xp, r = x.row ∧ RgX x
  | 0, _, h, _ => by omega
  | n + 1, r, hb, h => by
    obtain ⟨ps, rfl, hl, hT⟩ := hasT_struct Tryd.underlying40 h
    obtain ⟨a, b, c, d, rfl⟩ := parts4 hl
    obtain ⟨op, ho, -⟩ := hasT_int Tryd.underlying3 (hT 0 _ rfl)
    obtain ⟨k, hk, hw⟩ := hasT_int Tryd.underlying2 (hT 1 _ rfl)
    obtain ⟨s, hs, -⟩ := hasT_str Tryd.underlying9 (hT 2 _ rfl)
    have hd := hT 3 _ rfl
    simp at ho hk hs hd
    subst ho hk hs
    obtain ⟨z, u, l, hL, hQ⟩ := hasT_listQ n Tryd.underlying38 hd (by
      simp only [List.flatten_cons, List.flatten_nil, bulkRow_append, bulkRow, V.bulk] at hb; omega) fun r hr hT => x_of n hr hT
    subst hL
    exact ⟨⟨op, k, s.data.toList, z, u, l⟩, by rw [xrow_def]; rfl, .mk (i64_rg hw) hQ⟩
theorem s_of : ∀ (n : Nat) {r : List V}, bulkRow r < n → HasT Tryd.prog 42 r → ∃ x : Sp, r = x.row ∧ RgS x
  | 0, _, h, _ => by omega
  | n + 1, r, hb, h => by
    obtain ⟨ps, rfl, hl, hT⟩ := hasT_struct Tryd.underlying42 h
    obtain ⟨a, b, c, d, e, f, g, m, rfl⟩ := parts8 hl
    obtain ⟨op, ho, -⟩ := hasT_int Tryd.underlying3 (hT 0 _ rfl)
    obtain ⟨ln, hln, -⟩ := hasT_int Tryd.underlying3 (hT 1 _ rfl)
    obtain ⟨s, hs, -⟩ := hasT_str Tryd.underlying9 (hT 2 _ rfl)
    obtain ⟨s2, hs2, -⟩ := hasT_str Tryd.underlying9 (hT 3 _ rfl)
    have he := hT 4 _ rfl
    have hf := hT 5 _ rfl
    have hg := hT 6 _ rfl
    have hm := hT 7 _ rfl
    simp at ho hln hs hs2 he hf hg hm
    subst ho hln hs hs2
    simp only [List.flatten_cons, List.flatten_nil, bulkRow_append, bulkRow, V.bulk] at hb
    obtain ⟨z1, u1, l1, h1, q1⟩ := hasT_listQ n Tryd.underlying38 he (by omega) fun r hr hT => x_of n hr hT
    obtain ⟨x, h2, q2⟩ := x_of n (by omega) hf
    obtain ⟨z3, u3, l3, h3, q3⟩ := hasT_listQ n Tryd.underlying33 hg (by omega) fun r hr hT => s_of n hr hT
    obtain ⟨z4, u4, l4, h4, q4⟩ := hasT_listQ n Tryd.underlying33 hm (by omega) fun r hr hT => s_of n hr hT
    subst h1 h2 h3 h4
    exact ⟨⟨op, ln, s.data.toList, s2.data.toList, z1, u1, l1, x, z3, u3, l3, z4, u4, l4⟩, by rw [srow_def]; simp, .mk q1 q2 q3 q4⟩
theorem d_of {r : List V} (h : HasT Tryd.prog 60 r) : ∃ x : Dp, r = x.row ∧ (x.size ≤ 9223372036854775807 ∧ x.init ≤ 9223372036854775807) := by
  obtain ⟨ps, rfl, hl, hT⟩ := hasT_struct Tryd.underlying60 h
  obtain ⟨a, b, c, d, e, f, rfl⟩ := parts6 hl
  obtain ⟨k, hk, -⟩ := hasT_int Tryd.underlying3 (hT 0 _ rfl)
  obtain ⟨ln, hln, -⟩ := hasT_int Tryd.underlying3 (hT 1 _ rfl)
  obtain ⟨s, hs, -⟩ := hasT_str Tryd.underlying9 (hT 2 _ rfl)
  obtain ⟨sz, hsz, w1⟩ := hasT_int Tryd.underlying3 (hT 3 _ rfl)
  obtain ⟨i, hi, w2⟩ := hasT_int Tryd.underlying2 (hT 4 _ rfl)
  obtain ⟨s2, hs2, -⟩ := hasT_str Tryd.underlying9 (hT 5 _ rfl)
  simp at hk hln hs hsz hi hs2
  subst hk hln hs hsz hi hs2
  exact ⟨⟨k, ln, s.data.toList, sz, i, s2.data.toList⟩, rfl, (i64_rg w1).2, (i64_rg w2).2⟩
theorem t_of {r : List V} (h : HasT Tryd.prog 35 r) : ∃ x : Tp, r = x.row ∧ ∀ s ∈ x.body, RgS s := by
  obtain ⟨ps, rfl, hl, hT⟩ := hasT_struct Tryd.underlying35 h
  obtain ⟨a, b, c, d, rfl⟩ := parts4 hl
  obtain ⟨s, hs, -⟩ := hasT_str Tryd.underlying9 (hT 0 _ rfl)
  obtain ⟨ln, hln, -⟩ := hasT_int Tryd.underlying3 (hT 1 _ rfl)
  have hc := hT 2 _ rfl
  have hd := hT 3 _ rfl
  simp at hs hln hc hd
  subst hs hln
  obtain ⟨z1, u1, l1, h1, -⟩ := hasT_listQ (f := fun s => [V.str s]) (Q := fun _ => True) _ Tryd.underlying32 hc (Nat.le_refl _) fun r _ hr => by
    obtain ⟨s, rfl, -⟩ := hasT_str Tryd.underlying9 hr
    exact ⟨s.data.toList, rfl, trivial⟩
  obtain ⟨z2, u2, l2, h2, q2⟩ := hasT_listQ _ Tryd.underlying33 hd (Nat.le_refl _) fun r hr hT => s_of _ hr hT
  subst h1 h2
  exact ⟨⟨s.data.toList, ln, z1, u1, l1, z2, u2, l2⟩, rfl, q2⟩
theorem g_of {r : List V} (h : HasT Tryd.prog 26 r) : ∃ x : Gp, r = x.row ∧ RgG x := by
  obtain ⟨ps, rfl, hl, hT⟩ := hasT_struct Tryd.underlying26 h
  obtain ⟨a, b, rfl⟩ := parts2 hl
  have ha := hT 0 _ rfl
  have hb := hT 1 _ rfl
  simp at ha hb
  obtain ⟨z1, u1, l1, h1, q1⟩ := hasT_listQ _ Tryd.underlying23 ha (Nat.le_refl _) fun r _ hT => d_of hT
  obtain ⟨z2, u2, l2, h2, q2⟩ := hasT_listQ _ Tryd.underlying24 hb (Nat.le_refl _) fun r _ hT => t_of hT
  subst h1 h2
  exact ⟨⟨z1, u1, l1, z2, u2, l2⟩, rfl, q1, q2⟩
end Go.Proofs.YtlehfgdhebapeaaDoor
