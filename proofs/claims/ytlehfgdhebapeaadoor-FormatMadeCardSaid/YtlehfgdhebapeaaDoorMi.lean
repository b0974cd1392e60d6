/- Walks: which programs are shaped: lists of statements, declarations, programs. -/
import Derived.Test.YtlehfgdhebapeaaDoorMh
set_option linter.all false
namespace Go.Proofs.YtlehfgdhebapeaaDoor.KM
open Go
theorem shss_step (z : Bool) (t : Nat) (l : List Sp) (hl : l.length ≤ 1000000000) (ih : ∀ y ∈ l, Fn TT PT 55 [.agg y.row] (.bool (shS y))) : Fn TT PT 32 [SL z t (l.map Sp.row)] (.bool (shSs l)) := by
  have hlen : (l.map Sp.row).length = l.length := List.length_map ..
  rw [shss_all]
  obtain ⟨R, hR⟩ : ∃ b, b = l.all shS := ⟨_, rfl⟩
  rw [← hR]
  refine Fn_go T32 rfl ?_
  simp only [go_sem]
  refine loop_w (α := Nat) (fun i => l.length - i) (fun i => [(0, SL z t (l.map Sp.row)), (3, .int .i64 (i : Int))]) (fun _ => []) (fun i => i ≤ l.length ∧ l.all shS = (l.drop i).all shS) ?_ 0 ⟨Nat.zero_le _, rfl⟩
  rintro i ⟨hi, hinv⟩ jh
  refine w_rep (by delta lp32_0; exact rfl) ?_
  by_cases hc : i < l.length
  · have f1 : ((i : Int) < (l.length : Int)) = True := eq_true (by omega)
    have hin := inc64 (show i < 9223372036854775807 by omega)
    obtain ⟨a, ha⟩ : ∃ a, l[i]? = some a := ⟨_, List.getElem?_eq_getElem hc⟩
    have has := sset a
    have hf := ih a (List.mem_of_getElem? ha)
    have ha' : (l.map Sp.row)[i]? = some a.row := by rw [List.getElem?_map, ha, Option.map_some]
    have hda : l.drop i = a :: l.drop (i + 1) := by rw [List.drop_eq_getElem_cons hc, (List.getElem?_eq_some_iff.1 ha).2]
    have hrl := srow_len a
    rw [hda, List.all_cons] at hinv
    generalize a.row = ar at ha' hf has hrl
    have htk : ar.take 11 = ar := List.take_of_length_le (by omega)
    cases hab : shS a
    · rw [hab] at hf hinv
      rw [hinv] at hR
      subst hR
      simp only [go_sem, hlen, f1, ha', hrl, htk]
      refine wx_fn hf (by simp only [go_sem, has]) ?_
      simp only [go_sem]
      exact fr_eq rfl rfl
    · rw [hab] at hf hinv
      simp only [go_sem, hlen, f1, ha', hrl, htk]
      refine wx_fn hf (by simp only [go_sem, has]) ?_
      simp only [go_sem, hin]
      exact W_keep (jh (i + 1) (by omega) ⟨hc, by simpa using hinv⟩) rfl
  · have f1 : ((i : Int) < (l.length : Int)) = False := eq_false (by omega)
    rw [hinv, List.drop_eq_nil_of_le (by omega)] at hR
    subst hR
    simp only [go_sem, hlen, f1]
    exact fr_eq rfl rfl
theorem shs_fn : ∀ (N : Nat) (s : Sp), bulkRow s.row ≤ N → N ≤ 1000000000 → Fn TT PT 55 [.agg s.row] (.bool (shS s))
  | 0, s, h, _ => by rw [bulks] at h; omega
  | N + 1, s, h, hN => by
    have h1 := bulks s
    have h2 := bulk_len (f := Xp.row) (fun x => by rw [bulkx]; omega) s.idx
    have h3 := bulk_len (f := Sp.row) (fun x => by rw [bulks]; omega) s.body
    have h4 := bulk_len (f := Sp.row) (fun x => by rw [bulks]; omega) s.els
    have h5 := bulk_len (f := Xp.row) (fun x => by rw [bulkx]; omega) s.ex.l
    have h6 := bulkx s.ex
    refine shs_step s (fun x hx => shx_fn N x ?_ (by omega)) (shx_fn N s.ex (by omega) (by omega)) (by omega) (by omega) (by omega) (by omega) (shss_step _ _ _ (by omega) fun y hy => shs_fn N y ?_ (by omega)) (shss_step _ _ _ (by omega) fun y hy => shs_fn N y ?_ (by omega))
    · have := bulk_mem (f := Xp.row) hx
      omega
    · have := bulk_mem (f := Sp.row) hy
      omega
    · have := bulk_mem (f := Sp.row) hy
      omega
set_option maxHeartbeats 1000000 in
theorem shd_fn (d : Dp) : Fn TT PT 30 [.agg d.row] (.bool (shD d)) := by
  obtain ⟨kind, line, nm, size, init, on⟩ := d
  obtain ⟨R, hR⟩ : ∃ b, b = shD ⟨kind, line, nm, size, init, on⟩ := ⟨_, rfl⟩
  rw [← hR]
  unfold shD at hR
  simp only at hR
  have hna := rname_fn nm
  have hon := rname_fn on
  refine Fn_go T30 rfl ?_
  unfold Dp.row
  simp only
  obtain ⟨A3, h3⟩ : ∃ b, b = isNameE nm := ⟨_, rfl⟩
  obtain ⟨A6, h6⟩ : ∃ b, b = (if kind = 5 then isNameE on else on == []) := ⟨_, rfl⟩
  obtain ⟨A7, h7⟩ : ∃ b, b = (decide (-9223372036854775808 < init) && (init == 0 || (kind == 1 || kind == 2))) := ⟨_, rfl⟩
  rw [← h3, ← h6, ← h7] at hR
  rw [← h3] at hna
  refine w_seg (fun e σ => e = [(1, .ptr 0 0 0)] ∧ σ = [.row [.int .i64 kind, .int .i64 line, .str nm, .int .i64 size, .int .i64 init, .str on] 60 0 0]) (fun k' hk => ?_) ?_
  · simp only [go_sem]
    exact hk _ _ ⟨rfl, rfl⟩
  rintro e σ ⟨rfl, rfl⟩
  refine w_seg (fun e σ => (e = [(1, .ptr 0 0 0)] ∧ σ = [.row [.int .i64 kind, .int .i64 line, .str nm, .int .i64 size, .int .i64 init, .str on] 60 0 0]) ∧ R = (A6 && A7)) (fun k' hk => ?_) ?_
  · by_cases g1 : kind < 1
    · rw [decide_eq_false (show ¬ 1 ≤ kind by omega)] at hR
      subst hR
      have f1 : (kind < 1) = True := eq_true g1
      simp only [go_sem, f1]
      exact fr_eq rfl rfl
    have f1 : (kind < 1) = False := eq_false g1
    rw [decide_eq_true (show 1 ≤ kind by omega)] at hR
    by_cases g2 : 6 < kind
    · rw [decide_eq_false (show ¬ kind ≤ 6 by omega)] at hR
      subst hR
      have f2 : ((6 : Int) < kind) = True := eq_true g2
      simp only [go_sem, f1, f2, gt_iff_lt]
      exact fr_eq rfl rfl
    have f2 : ((6 : Int) < kind) = False := eq_false g2
    rw [decide_eq_true (show kind ≤ 6 by omega)] at hR
    cases A3
    · subst hR
      simp only [go_sem, f1, f2, gt_iff_lt]
      refine wx_fn hna rfl ?_
      simp only [go_sem, Bool.not_false]
      exact fr_eq rfl rfl
    by_cases g4 : size < 0
    · rw [decide_eq_false (show ¬ 0 ≤ size by omega)] at hR
      subst hR
      have f4 : (size < 0) = True := eq_true g4
      simp only [go_sem, f1, f2, gt_iff_lt]
      refine wx_fn hna rfl ?_
      simp only [go_sem, f4, Bool.not_true]
      exact fr_eq rfl rfl
    have f4 : (size < 0) = False := eq_false g4
    rw [decide_eq_true (show 0 ≤ size by omega)] at hR
    cases q1 : (kind == 1) <;> cases q5 : (size == 0)
    · rw [q1, q5] at hR
      subst hR
      simp only [go_sem, f1, f2, gt_iff_lt]
      refine wx_fn hna rfl ?_
      simp only [go_sem, f4, Bool.not_true, Bool.not_false, bne, q1, q5]
      exact fr_eq rfl rfl
    all_goals
      rw [q1, q5] at hR
      simp only [go_sem, f1, f2, gt_iff_lt]
      refine wx_fn hna rfl ?_
      simp only [go_sem, f4, Bool.not_true, Bool.not_false, bne, q1, q5]
      exact hk _ _ ⟨⟨rfl, rfl⟩, by rw [hR]; rfl⟩
  clear hR
  rintro e σ ⟨⟨rfl, rfl⟩, hR⟩
  refine w_seg (fun e σ => (e = [(1, .ptr 0 0 0)] ∧ σ = [.row [.int .i64 kind, .int .i64 line, .str nm, .int .i64 size, .int .i64 init, .str on] 60 0 0]) ∧ R = A7) (fun k' hk => ?_) ?_
  · by_cases h5 : kind = 5
    · rw [if_pos h5] at h6
      have q5 : (kind == 5) = true := by simp [h5]
      rw [← h6] at hon
      cases A6
      · subst hR
        simp only [go_sem, q5, bne, Bool.not_true, Bool.not_false]
        refine wx_fn hon rfl ?_
        simp only [go_sem, Bool.not_false]
        exact fr_eq rfl rfl
      · simp only [go_sem, q5, bne, Bool.not_true, Bool.not_false]
        refine wx_fn hon rfl ?_
        simp only [go_sem, q5, bne, Bool.not_true, Bool.not_false]
        exact hk _ _ ⟨⟨rfl, rfl⟩, by rw [hR]; rfl⟩
    · rw [if_neg h5] at h6
      have h6 := h6.symm
      have q5 : (kind == 5) = false := by simp [h5]
      cases A6
      · subst hR
        simp only [go_sem, q5, h6, bne, Bool.not_true, Bool.not_false]
        exact fr_eq rfl rfl
      · simp only [go_sem, q5, h6, bne, Bool.not_true, Bool.not_false]
        exact hk _ _ ⟨⟨rfl, rfl⟩, by rw [hR]; rfl⟩
  clear hR
  rintro e σ ⟨⟨rfl, rfl⟩, hR⟩
  rw [h7] at hR
  by_cases g7 : -9223372036854775808 < init
  · have f7 : ((-9223372036854775808 : Int) < init) = True := eq_true g7
    rw [decide_eq_true g7] at hR
    cases q0 : (init == 0) <;> cases q1 : (kind == 1) <;> cases q2 : (kind == 2)
    all_goals
      rw [q0, q1, q2] at hR
      subst hR
      simp only [go_sem, f7, q0, q1, q2, gt_iff_lt]
      exact fr_eq rfl rfl
  · have f7 : ((-9223372036854775808 : Int) < init) = False := eq_false g7
    rw [decide_eq_false g7] at hR
    subst hR
    simp only [go_sem, f7, gt_iff_lt]
    exact fr_eq rfl rfl
end Go.Proofs.YtlehfgdhebapeaaDoor.KM
