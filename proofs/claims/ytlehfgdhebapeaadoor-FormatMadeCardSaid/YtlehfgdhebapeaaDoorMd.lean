/- Walks: which programs are shaped. -/
import Derived.Test.YtlehfgdhebapeaaDoorMc
import Derived.Test.YtlehfgdhebapeaaDoorPg
set_option linter.all false
namespace Go.Proofs.YtlehfgdhebapeaaDoor.KM
open Go
theorem w_seg {a b : AC} {k : List It} {e : Env} {σ : St} {Q : Env → St → Prop} (P : Env → St → Prop) (h1 : ∀ k', (∀ e σ, P e σ → W TT PT k' e σ Q) → W TT PT (.c a :: k') e σ Q) (h2 : ∀ e σ, P e σ → W TT PT (.c b :: k) e σ Q) : W TT PT (.c (.seq a b) :: k) e σ Q := by
  rw [w_seq]
  exact h1 _ h2
theorem operands_fn (op : Int) : Fn TT PT 107 [.int .i64 op] (.int .i64 (arE op)) := by
  refine Fn_go T107 rfl ?_
  unfold arE
  by_cases h1 : op = 1
  · subst h1
    simp only [go_sem, Int.reduceBEq]
    exact fr_eq rfl rfl
  have e1 : (op == 1) = false := by simp [h1]
  by_cases h2 : op = 2
  · subst h2
    simp only [go_sem, e1, Int.reduceBEq]
    exact fr_eq rfl rfl
  have e2 : (op == 2) = false := by simp [h2]
  rw [if_neg (by omega)]
  by_cases h3 : 3 ≤ op ∧ op ≤ 5
  · have g3 : ((3 : Int) ≤ op) = True := eq_true h3.1
    have g5 : (op ≤ 5) = True := eq_true h3.2
    rw [if_pos h3]
    simp only [go_sem, e1, e2, g3, g5, ge_iff_le]
    exact fr_eq rfl rfl
  rw [if_neg h3]
  by_cases h6 : 6 ≤ op ∧ op ≤ 18
  · have g3 : ((3 : Int) ≤ op) = True := eq_true (by omega)
    have g5 : (op ≤ 5) = False := eq_false (by omega)
    have g6 : ((6 : Int) ≤ op) = True := eq_true h6.1
    have g7 : (op ≤ 18) = True := eq_true h6.2
    rw [if_pos h6]
    simp only [go_sem, e1, e2, g3, g5, g6, g7, ge_iff_le]
    exact fr_eq rfl rfl
  rw [if_neg h6]
  by_cases hl : 3 ≤ op
  · have g3 : ((3 : Int) ≤ op) = True := eq_true (by omega)
    have g5 : (op ≤ 5) = False := eq_false (by omega)
    have g6 : ((6 : Int) ≤ op) = True := eq_true (by omega)
    have g7 : (op ≤ 18) = False := eq_false (by omega)
    simp only [go_sem, e1, e2, g3, g5, g6, g7, ge_iff_le]
    exact fr_eq rfl rfl
  · have g3 : ((3 : Int) ≤ op) = False := eq_false (by omega)
    have g6 : ((6 : Int) ≤ op) = False := eq_false (by omega)
    simp only [go_sem, e1, e2, g3, g6, ge_iff_le]
    exact fr_eq rfl rfl
theorem blank_fn (x : Xp) (hl : x.l.length ≤ 1000000000) : Fn TT PT 81 [.agg x.row] (.bool (blankB x)) := by
  refine Fn_go T81 rfl ?_
  rw [xrow_def]
  unfold blankB
  have hlen : (x.l.map Xp.row).length = x.l.length := List.length_map ..
  cases h1 : (x.op == 0)
  · simp only [go_sem, h1]
    exact fr_eq rfl rfl
  cases h2 : (x.n == 0)
  · simp only [go_sem, h1, h2]
    exact fr_eq rfl rfl
  cases h3 : (x.nm == [])
  · simp only [go_sem, h1, h2, h3]
    exact fr_eq rfl rfl
  have e : ((x.l.length : Int) == 0) = x.l.isEmpty := by
    cases x.l with
    | nil => rfl
    | cons a b => simp; omega
  simp only [go_sem, h1, h2, h3, hlen, e]
  exact fr_eq rfl rfl
set_option maxHeartbeats 1000000 in
theorem shx_step (x : Xp) (hl : x.l.length ≤ 1000000000) (ih : ∀ y ∈ x.l, Fn TT PT 80 [.agg y.row] (.bool (shX y))) : Fn TT PT 80 [.agg x.row] (.bool (shX x)) := by
  obtain ⟨op, n, nm, z, t, l⟩ := x
  have hr := xrow_def ⟨op, n, nm, z, t, l⟩
  have hR := shx_def ⟨op, n, nm, z, t, l⟩
  generalize shX ⟨op, n, nm, z, t, l⟩ = R at hR ⊢
  simp only at hr hl ih hR
  rw [hr]
  clear hr
  unfold shH at hR
  have hlen : (l.map Xp.row).length = l.length := List.length_map ..
  refine Fn_go T80 rfl ?_
  refine w_seg (fun e σ => e = [(1, .ptr 0 0 0)] ∧ σ = [.row [.int .i64 op, .int .i64 n, .str nm, SL z t (l.map Xp.row)] 40 0 0]) (fun k' hk => ?_) ?_
  · simp only [go_sem]
    exact hk _ _ ⟨rfl, rfl⟩
  rintro e σ ⟨rfl, rfl⟩
  refine w_seg (fun e σ => e = [(1, .ptr 0 0 0), (3, .bool (op == 2 || op == 3))] ∧ σ = [.row [.int .i64 op, .int .i64 n, .str nm, SL z t (l.map Xp.row)] 40 0 0]) (fun k' hk => ?_) ?_
  · cases h2 : (op == 2)
    · simp only [go_sem, h2]
      exact hk _ _ ⟨by rw [h2]; rfl, rfl⟩
    · simp only [go_sem, h2]
      exact hk _ _ ⟨by rw [h2]; rfl, rfl⟩
  rintro e σ ⟨rfl, rfl⟩
  generalize (op == 2 || op == 3) = nb at hR ⊢
  have ho := operands_fn op
  have hna := rname_fn nm
  refine w_seg (fun e σ => (e = [(1, .ptr 0 0 0)] ∧ σ = [.row [.int .i64 op, .int .i64 n, .str nm, SL z t (l.map Xp.row)] 40 0 0]) ∧ R = l.all shX) (fun k' hk => ?_) ?_
  · cases h1 : (arE op != (l.length : Int))
    rotate_left
    · have b1 : (arE op == (l.length : Int)) = false := by simpa using h1
      rw [b1] at hR
      subst hR
      simp only [go_sem]
      refine w_drw (by kernel_rfl) ?_
      simp only [go_sem]
      refine wgx_fn ho rfl ?_
      simp only [go_sem, hlen, h1]
      exact fr_eq rfl rfl
    have b1 : (arE op == (l.length : Int)) = true := by simpa using h1
    rw [b1] at hR
    have lt : ∀ {a : Int}, decide (0 ≤ a) = !decide (a < 0) := fun {a} => by
      by_cases h : 0 ≤ a
      · rw [decide_eq_true h, decide_eq_false (by omega)]; rfl
      · rw [decide_eq_false h, decide_eq_true (by omega)]; rfl
    cases nb <;> cases h2 : (nm == [])
    · rw [h2] at hR
      subst hR
      simp only [go_sem]
      refine w_drw (by kernel_rfl) ?_
      simp only [go_sem]
      refine wgx_fn ho rfl ?_
      simp only [go_sem, hlen, h1, h2, Bool.not_false, Bool.not_true, beq_self_eq_true, Bool.false_beq, Bool.true_beq]
      exact fr_eq rfl rfl
    · rw [h2] at hR
      cases h4 : decide (n < 0)
      rotate_left
      · rw [lt, h4] at hR
        simp only [Bool.not_true, Bool.false_and, Bool.and_false] at hR
        subst hR
        simp only [go_sem]
        refine w_drw (by kernel_rfl) ?_
        simp only [go_sem]
        refine wgx_fn ho rfl ?_
        simp only [go_sem, hlen, h1, h2, Bool.not_false, Bool.not_true, beq_self_eq_true, Bool.false_beq, Bool.true_beq, h4]
        exact fr_eq rfl rfl
      rw [lt, h4] at hR
      cases h5 : (op == 1)
      rotate_left
      · rw [h5] at hR
        have h5' : (op != 1) = false := by simp [bne, h5]
        simp only [go_sem]
        refine w_drw (by kernel_rfl) ?_
        simp only [go_sem]
        refine wgx_fn ho rfl ?_
        simp only [go_sem, hlen, h1, h2, Bool.not_false, Bool.not_true, beq_self_eq_true, Bool.false_beq, Bool.true_beq, h4, h5']
        exact hk _ _ ⟨⟨rfl, rfl⟩, by rw [hR]; rfl⟩
      rw [h5] at hR
      have h5' : (op != 1) = true := by simp [bne, h5]
      cases h6 : (n == 0)
      · rw [h6] at hR
        have h6' : (n != 0) = true := by simp [bne, h6]
        simp only [Bool.not_false, Bool.not_true, Bool.and_false, Bool.or_false, Bool.false_and] at hR
        subst hR
        simp only [go_sem]
        refine w_drw (by kernel_rfl) ?_
        simp only [go_sem]
        refine wgx_fn ho rfl ?_
        simp only [go_sem, hlen, h1, h2, Bool.not_false, Bool.not_true, beq_self_eq_true, Bool.false_beq, Bool.true_beq, h4, h5', h6']
        exact fr_eq rfl rfl
      rw [h6] at hR
      have h6' : (n != 0) = false := by simp [bne, h6]
      simp only [go_sem]
      refine w_drw (by kernel_rfl) ?_
      simp only [go_sem]
      refine wgx_fn ho rfl ?_
      simp only [go_sem, hlen, h1, h2, Bool.not_false, Bool.not_true, beq_self_eq_true, Bool.false_beq, Bool.true_beq, h4, h5', h6']
      exact hk _ _ ⟨⟨rfl, rfl⟩, by rw [hR]; rfl⟩
    · rw [h2] at hR
      cases h3 : isNameE nm
      · rw [h3] at hR hna
        subst hR
        simp only [go_sem]
        refine w_drw (by kernel_rfl) ?_
        simp only [go_sem]
        refine wgx_fn ho rfl ?_
        simp only [go_sem, hlen, h1, h2, Bool.not_false, Bool.not_true, beq_self_eq_true, Bool.false_beq, Bool.true_beq]
        refine wgx_fn hna rfl ?_
        simp only [go_sem, hlen, h1, h2, Bool.not_false, Bool.not_true, beq_self_eq_true, Bool.false_beq, Bool.true_beq]
        exact fr_eq rfl rfl
      rw [h3] at hR hna
      cases h4 : decide (n < 0)
      rotate_left
      · rw [lt, h4] at hR
        simp only [Bool.not_true, Bool.false_and, Bool.and_false] at hR
        subst hR
        simp only [go_sem]
        refine w_drw (by kernel_rfl) ?_
        simp only [go_sem]
        refine wgx_fn ho rfl ?_
        simp only [go_sem, hlen, h1, h2, Bool.not_false, Bool.not_true, beq_self_eq_true, Bool.false_beq, Bool.true_beq]
        refine wgx_fn hna rfl ?_
        simp only [go_sem, hlen, h1, h2, Bool.not_false, Bool.not_true, beq_self_eq_true, Bool.false_beq, Bool.true_beq, h4]
        exact fr_eq rfl rfl
      rw [lt, h4] at hR
      cases h5 : (op == 1)
      rotate_left
      · rw [h5] at hR
        have h5' : (op != 1) = false := by simp [bne, h5]
        simp only [go_sem]
        refine w_drw (by kernel_rfl) ?_
        simp only [go_sem]
        refine wgx_fn ho rfl ?_
        simp only [go_sem, hlen, h1, h2, Bool.not_false, Bool.not_true, beq_self_eq_true, Bool.false_beq, Bool.true_beq]
        refine wgx_fn hna rfl ?_
        simp only [go_sem, hlen, h1, h2, Bool.not_false, Bool.not_true, beq_self_eq_true, Bool.false_beq, Bool.true_beq, h4, h5']
        exact hk _ _ ⟨⟨rfl, rfl⟩, by rw [hR]; rfl⟩
      rw [h5] at hR
      have h5' : (op != 1) = true := by simp [bne, h5]
      cases h6 : (n == 0)
      · rw [h6] at hR
        have h6' : (n != 0) = true := by simp [bne, h6]
        simp only [Bool.not_false, Bool.not_true, Bool.and_false, Bool.or_false, Bool.false_and] at hR
        subst hR
        simp only [go_sem]
        refine w_drw (by kernel_rfl) ?_
        simp only [go_sem]
        refine wgx_fn ho rfl ?_
        simp only [go_sem, hlen, h1, h2, Bool.not_false, Bool.not_true, beq_self_eq_true, Bool.false_beq, Bool.true_beq]
        refine wgx_fn hna rfl ?_
        simp only [go_sem, hlen, h1, h2, Bool.not_false, Bool.not_true, beq_self_eq_true, Bool.false_beq, Bool.true_beq, h4, h5', h6']
        exact fr_eq rfl rfl
      rw [h6] at hR
      have h6' : (n != 0) = false := by simp [bne, h6]
      simp only [go_sem]
      refine w_drw (by kernel_rfl) ?_
      simp only [go_sem]
      refine wgx_fn ho rfl ?_
      simp only [go_sem, hlen, h1, h2, Bool.not_false, Bool.not_true, beq_self_eq_true, Bool.false_beq, Bool.true_beq]
      refine wgx_fn hna rfl ?_
      simp only [go_sem, hlen, h1, h2, Bool.not_false, Bool.not_true, beq_self_eq_true, Bool.false_beq, Bool.true_beq, h4, h5', h6']
      exact hk _ _ ⟨⟨rfl, rfl⟩, by rw [hR]; rfl⟩
    · rw [h2] at hR
      subst hR
      simp only [go_sem]
      refine w_drw (by kernel_rfl) ?_
      simp only [go_sem]
      refine wgx_fn ho rfl ?_
      simp only [go_sem, hlen, h1, h2, Bool.not_false, Bool.not_true, beq_self_eq_true, Bool.false_beq, Bool.true_beq]
      exact fr_eq rfl rfl
  rintro e σ ⟨⟨rfl, rfl⟩, hR⟩
  simp only [go_sem]
  refine loop_w (α := Nat) (fun i => l.length - i) (fun i => [(1, .ptr 0 0 0), (4, .int .i64 (i : Int))]) (fun _ => [.row [.int .i64 op, .int .i64 n, .str nm, SL z t (l.map Xp.row)] 40 0 0]) (fun i => i ≤ l.length ∧ l.all shX = (l.drop i).all shX) ?_ 0 ⟨Nat.zero_le _, rfl⟩
  rintro i ⟨hi, hinv⟩ jh
  refine w_rep (by delta lp80_0; exact rfl) ?_
  by_cases hc : i < l.length
  · have f1 : ((i : Int) < (l.length : Int)) = True := eq_true (by omega)
    have hin := inc64 (show i < 9223372036854775807 by omega)
    obtain ⟨a, ha⟩ : ∃ a, l[i]? = some a := ⟨_, List.getElem?_eq_getElem hc⟩
    have har := xrow_def a
    have has := xset a
    have hf := ih a (List.mem_of_getElem? ha)
    have ha' : (l.map Xp.row)[i]? = some [.int .i64 a.op, .int .i64 a.n, .str a.nm, SL a.z a.t (a.l.map Xp.row)] := by rw [List.getElem?_map, ha, Option.map_some, har]
    have hda : l.drop i = a :: l.drop (i + 1) := by rw [List.drop_eq_getElem_cons hc, (List.getElem?_eq_some_iff.1 ha).2]
    rw [hda, List.all_cons] at hinv
    rw [har] at hf has
    cases hab : shX a
    · rw [hab] at hf hinv
      rw [hinv] at hR
      subst hR
      simp only [go_sem, hlen, f1, ha']
      refine wx_fn hf (by simp only [go_sem]) ?_
      simp only [go_sem]
      exact fr_eq rfl rfl
    · rw [hab] at hf hinv
      simp only [go_sem, hlen, f1, ha']
      refine wx_fn hf (by simp only [go_sem]) ?_
      simp only [go_sem, hin]
      exact W_keep (jh (i + 1) (by omega) ⟨hc, by simpa using hinv⟩) rfl
  · have f1 : ((i : Int) < (l.length : Int)) = False := eq_false (by omega)
    rw [hinv, List.drop_eq_nil_of_le (by omega)] at hR
    subst hR
    simp only [go_sem, hlen, f1]
    exact fr_eq rfl rfl
theorem shx_fn : ∀ (N : Nat) (x : Xp), bulkRow x.row ≤ N → N ≤ 1000000000 → Fn TT PT 80 [.agg x.row] (.bool (shX x))
  | 0, x, h, _ => by rw [bulkx] at h; omega
  | N + 1, x, h, hN => by
    have h1 := bulkx x
    have h2 := bulk_len (f := Xp.row) (fun x => by rw [bulkx]; omega) x.l
    refine shx_step x (by omega) fun y hy => shx_fn N y ?_ (by omega)
    have := bulk_mem (f := Xp.row) hy
    omega
end Go.Proofs.YtlehfgdhebapeaaDoor.KM
