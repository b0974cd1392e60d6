/- Walks: which values are baselines. -/
import Derived.Test.YtlehfgdhebapeaaDoorNu
import Derived.Test.YtlehfgdhebapeaaDoorNj
set_option linter.all false
namespace Go.Proofs.YtlehfgdhebapeaaDoor.KM
open Go
attribute [go_sem] Nat.sub_zero Nat.zero_le Int.natCast_nonneg
/-! interleaveref01 -/
def runOneG (f : AF) (args : List V) : Option V := (bodyF (runD TT PT 60) f args []).bind fun p => back p.2 p.1
theorem letter_runs : ((List.range 256).all fun n => match runOneG af52 [.int .u8 n] with
    | some v => v.eqv (.bool (letN n))
    | none => false) = true := by kernel_rfl
theorem rletter_fn (n : Nat) (h : n < 256) : Fn TT PT 52 [.int .u8 n] (.bool (letN n)) := by
  have := List.all_eq_true.1 letter_runs n (List.mem_range.2 h)
  split at this
  · rename_i v hv
    have e := eqv_eq this
    subst e
    exact run_fnD hSt T52 rfl rfl hv
  · cases this
theorem inner_runs : ((List.range 256).all fun n => match runOneG af54 [.int .u8 n] with
    | some v => v.eqv (.bool (innN n))
    | none => false) = true := by kernel_rfl
theorem inner_fn (n : Nat) (h : n < 256) : Fn TT PT 54 [.int .u8 n] (.bool (innN n)) := by
  have := List.all_eq_true.1 inner_runs n (List.mem_range.2 h)
  split at this
  · rename_i v hv
    have e := eqv_eq this
    subst e
    exact run_fnD hSt T54 rfl rfl hv
  · cases this
def kwRows : List (List V) := kwL.map fun k => [V.str k]
theorem keywords_fn : Fn TT PT 78 [] (.lst 1 kwRows) := by
  have : (match runOneG af78 [] with
    | some v => v.eqv (.lst 1 kwRows)
    | none => false) = true := by kernel_rfl
  split at this
  · rename_i v hv
    have e := eqv_eq this
    subst e
    exact run_fnD hSt T78 rfl rfl hv
  · cases this
theorem rkw_fn (l : List UInt8) : Fn TT PT 53 [.str l] (.bool (kwE l)) := by
  have hlen : kwRows.length = 22 := rfl
  have hget : ∀ i, i < 22 → kwRows[i]? = some [.str (kwL.getD i [])] := fun i hi => by
    have hl : i < kwL.length := hi
    unfold kwRows
    rw [List.getElem?_map, List.getElem?_eq_getElem hl, List.getD_eq_getElem?_getD, List.getElem?_eq_getElem hl]
    rfl
  have hk := keywords_fn
  generalize kwRows = g at hlen hget hk
  refine Fn_go T53 rfl ?_
  simp only [go_sem]
  refine wx_fn hk rfl ?_
  simp only [go_sem]
  refine loop_w (fun i => 22 - i) (fun i : Nat => [(0, .str l), (3, .lst 1 g), (4, .int .i64 i)]) (fun _ => []) (fun i => i ≤ 22 ∧ ∀ j, j < i → (l == kwL.getD j []) = false) ?_ 0 ⟨by omega, fun j hj => by omega⟩
  rintro i ⟨hi, hno⟩ ih
  refine w_rep (by delta lp53_0; exact rfl) ?_
  rcases Nat.lt_or_ge i 22 with h | h
  · have hlt : decide ((i : Int) < 22) = true := by simp; omega
    simp only [go_sem, hlen, hlt, hget i h]
    refine wc_if (fun h3 => ?_) (fun h3 => ?_)
    · simp only [go_sem]
      refine fr_eq rfl ?_
      unfold kwE
      rw [List.any_eq_true.2 ⟨kwL.getD i [], ?_, ?_⟩]
      · have hl : i < kwL.length := h
        rw [List.getD_eq_getElem?_getD, List.getElem?_eq_getElem hl]
        exact List.getElem_mem hl
      · rw [← h3, Bool.beq_comm]
    · simp only [go_sem, inc64 (show i < 9223372036854775807 by omega)]
      refine W_keep (ih (i + 1) (by omega) ⟨by omega, fun j hj => ?_⟩) rfl
      by_cases e : j = i
      · rw [e, ← h3, Bool.beq_comm]
      · exact hno j (by omega)
  · have hlt : decide ((i : Int) < 22) = false := by simp; omega
    simp only [go_sem, hlen, hlt]
    refine fr_eq rfl ?_
    symm
    congr 1
    unfold kwE
    rw [← Bool.not_eq_true]
    intro ha
    obtain ⟨k, hk, he⟩ := List.any_eq_true.1 ha
    obtain ⟨j, hj, rfl⟩ := List.getElem_of_mem hk
    have hj2 : j < 22 := hj
    have := hno j (by omega)
    rw [List.getD_eq_getElem?_getD, List.getElem?_eq_getElem hj] at this
    exact absurd he (by simpa using this)
theorem name_ref {l : List UInt8} (h0 : 0 < l.length) : ((letN (l.getD 0 0).toNat = true) ∧ ∀ j, j < l.length → innN (l.getD j 0).toNat = true) ↔ ∀ j, j < l.length → nmC l j = true := by
  have inn : ∀ n, innN n = true ↔ letN n = true ∨ (n = 95 ∨ digN n = true) := fun n => by
    unfold innN
    simp only [Bool.or_eq_true, beq_iff_eq]
    constructor
    · rintro (h | h | h)
      · exact .inl h
      · exact .inr (.inr h)
      · exact .inr (.inl h)
    · rintro (h | h | h)
      · exact .inl h
      · exact .inr (.inr h)
      · exact .inr (.inl h)
  have nm : ∀ j, nmC l j = true ↔ letN (l.getD j 0).toNat = true ∨ (0 < j ∧ ((l.getD j 0).toNat = 95 ∨ digN (l.getD j 0).toNat = true)) := fun j => by
    unfold nmC
    simp only [Bool.or_eq_true, Bool.and_eq_true, decide_eq_true_eq, beq_iff_eq]
  constructor
  · rintro ⟨h1, h2⟩ j hj
    rw [nm]
    have := (inn _).1 (h2 j hj)
    by_cases e : j = 0
    · subst e; exact .inl h1
    · exact this.imp id fun h => ⟨by omega, h⟩
  · intro h
    refine ⟨?_, fun j hj => ?_⟩
    · have := (nm 0).1 (h 0 h0)
      exact this.elim id fun h => by omega
    · have := (nm j).1 (h j hj)
      exact (inn _).2 (this.imp id fun h => h.2)
theorem rname_fn (l : List UInt8) : Fn TT PT 31 [.str l] (.bool (isNameE l)) := by
  refine Fn_go T31 rfl ?_
  cases h0 : decide ((l.length : Int) < 1)
  rotate_left
  · simp only [go_sem, h0]
    exact fr_eq rfl (by rw [name_f1 (by simp at h0; omega)])
  have h0' : 0 < l.length := by simp at h0; omega
  cases h1 : decide ((12 : Int) < (l.length : Int))
  rotate_left
  · simp only [go_sem, h0, h1]
    exact fr_eq rfl (by rw [name_f2 (by simp at h1; omega)])
  have hg : l[0]? = some (l.getD 0 0) := by rw [List.getD_eq_getElem?_getD, List.getElem?_eq_getElem h0']; rfl
  have hlet := rletter_fn (l.getD 0 0).toNat (l.getD 0 0).toNat_lt
  cases h2 : letN (l.getD 0 0).toNat
  · rw [h2] at hlet
    simp only [go_sem, h0, h1, hg]
    refine wx_fn hlet rfl ?_
    simp only [go_sem]
    refine fr_eq rfl ?_
    rw [show isNameE l = false from ?_]
    have := mt (name_ref h0').2 (by rw [h2]; simp)
    rw [← Bool.not_eq_true]
    intro hn
    unfold isNameE at hn
    simp only [Bool.and_eq_true, List.all_eq_true, List.mem_range] at hn
    exact this hn.2.2.2
  rw [h2] at hlet
  cases h3 : kwE l
  rotate_left
  · have hk := rkw_fn l
    rw [h3] at hk
    simp only [go_sem, h0, h1, hg]
    refine wx_fn hlet rfl ?_
    simp only [go_sem]
    refine wx_fn hk rfl ?_
    simp only [go_sem]
    exact fr_eq rfl (by rw [name_f3 h3])
  have hk := rkw_fn l
  rw [h3] at hk
  simp only [go_sem, h0, h1, hg]
  refine wx_fn hlet rfl ?_
  simp only [go_sem]
  refine wx_fn hk rfl ?_
  simp only [go_sem]
  refine loop_w (fun i => l.length - i) (fun i : Nat => [(0, .str l), (3, .int .i64 i)]) (fun _ => []) (fun i => i ≤ l.length ∧ ∀ j, j < i → innN (l.getD j 0).toNat = true) ?_ 0 ⟨by omega, fun j hj => by omega⟩
  rintro i ⟨hi, hno⟩ ih
  refine w_rep (by delta lp31_0; exact rfl) ?_
  have hle : l.length ≤ 12 := by simp at h1; omega
  rcases Nat.lt_or_ge i l.length with h | h
  · have hgi : l[i]? = some (l.getD i 0) := by rw [List.getD_eq_getElem?_getD, List.getElem?_eq_getElem h]; rfl
    have hin := inner_fn (l.getD i 0).toNat (l.getD i 0).toNat_lt
    cases h4 : innN (l.getD i 0).toNat
    · rw [h4] at hin
      simp only [go_sem, lt_t h, hgi]
      refine wx_fn hin rfl ?_
      simp only [go_sem]
      refine fr_eq rfl ?_
      rw [show isNameE l = false from ?_]
      rw [← Bool.not_eq_true]
      intro hn
      unfold isNameE at hn
      simp only [Bool.and_eq_true, List.all_eq_true, List.mem_range] at hn
      have := ((name_ref h0').2 hn.2.2.2).2 i h
      rw [h4] at this
      cases this
    · rw [h4] at hin
      simp only [go_sem, lt_t h, hgi]
      refine wx_fn hin rfl ?_
      simp only [go_sem, inc64 (show i < 9223372036854775807 by omega)]
      refine W_keep (ih (i + 1) (by omega) ⟨by omega, fun j hj => ?_⟩) rfl
      by_cases e : j = i
      · rw [e]; exact h4
      · exact hno j (by omega)
  · simp only [go_sem, lt_f h]
    refine fr_eq rfl ?_
    rw [name_t (by omega) hle h3 ((name_ref h0').1 ⟨h2, fun j hj => hno j (by omega)⟩)]
end Go.Proofs.YtlehfgdhebapeaaDoor.KM
