/- Plain: how long the text of an expression is. -/
import Derived.Test.YtliiehfjcplieaaDoorSh
import Derived.Lib.ItoaLen
namespace Go.Proofs.YtliiehfjcplieaaDoor

theorem head_arity {x : Ex} (h : headB x = true) : arity x.op = (x.l.length : Int) := by
  unfold headB at h
  simp only [Bool.and_eq_true] at h
  exact eq_of_beq h.1
theorem head_name {x : Ex} (h : headB x = true) (hn : x.op = 2 ∨ x.op = 3) : nameB x.name = true := by
  unfold headB at h
  simp only [Bool.and_eq_true, Bool.or_eq_true] at h
  rcases h.2.2.1 with h' | h'
  · rcases hn with e | e <;> simp [e] at h'
  · exact h'
theorem name_short {s : ByteArray} (h : nameB s = true) : s.size ≤ 12 := by
  unfold nameB at h
  simp only [Bool.and_eq_true, decide_eq_true_eq] at h
  exact h.2.1
/-- what is shaped has as many operands as it wants -/
theorem sh_cnt : ∀ {d : Nat} {x : Ex}, shB d x = true → cnt d x
  | 0, _, h => by simp [shB] at h
  | d + 1, x, h => by
    unfold shB at h
    simp only [Bool.and_eq_true, List.all_eq_true] at h
    exact ⟨head_arity h.1, fun y hy => sh_cnt (h.2 y hy)⟩

theorem putT_len (t : List UInt8) (op level : Int) : (putT t op level).length ≤ t.length + 2 := by
  unfold putT; split <;> simp
theorem sgn_len (op : Int) : (sgn op).length ≤ 2 := by
  unfold sgn; split <;> simp

def lens (d : Nat) (l : List Ex) : Nat := (l.map fun y => (txt d y).length).sum
theorem lens_nil (d : Nat) : lens d [] = 0 := rfl
theorem lens_cons (d : Nat) (y : Ex) (l : List Ex) : lens d (y :: l) = (txt d y).length + lens d l := rfl
/-- the name's part of a text -/
def nmLen (x : Ex) : Nat := if x.op = 2 ∨ x.op = 3 then x.name.size else 0
/-- the length of a text from its operands' -/
theorem txt_len {d : Nat} {x : Ex} (hi : -9223372036854775808 ≤ x.n) (hi2 : x.n ≤ 9223372036854775807) (ha : arity x.op = (x.l.length : Int)) :
    (txt (d + 1) x).length ≤ 26 + nmLen x + lens d x.l := by
  have hs := size_list x.name
  have hnm : x.op = 2 ∨ x.op = 3 → nmLen x = x.name.size := fun h => if_pos h
  have h1 := sgn_len x.op
  simp only [txt]
  split
  · have := Lib.itoa_length_le x.n hi hi2
    omega
  split
  · rename_i c2
    have := hnm (.inl c2)
    omega
  rename_i c1 c2
  have hlen : (x.op = 3 ∨ x.op = 4 ∨ x.op = 5) ∧ x.l.length = 1 ∨ (6 ≤ x.op ∧ x.op ≤ 18) ∧ x.l.length = 2 := by
    unfold arity at ha
    split at ha
    · omega
    split at ha
    · omega
    split at ha <;> omega
  rcases hlen with ⟨ho, hl⟩ | ⟨ho, hl⟩
  · obtain ⟨a, e⟩ : ∃ a, x.l = [a] := List.length_eq_one_iff.1 hl
    rw [e]
    simp only [lens_cons, lens_nil]
    have h6 := putT_len (txt d a) a.op 6
    split
    · rename_i c3
      have := hnm (.inr c3)
      simp only [List.length_append, List.length_cons, List.length_nil, List.getD_cons_zero]; omega
    · rw [if_pos (by rcases ho with h | h | h <;> first | contradiction | (rw [h]; rfl))]
      simp only [List.length_append, List.getD_cons_zero]; omega
  · obtain ⟨a, b, e⟩ : ∃ a b, x.l = [a, b] := by
      match hx : x.l, hl with
      | [a, b], _ => exact ⟨a, b, rfl⟩
    rw [if_neg (by omega), if_neg (by
      have := ops18 (op := x.op) (by omega) (by omega)
      rcases this with h | h | h | h | h | h | h | h | h | h | h | h | h | h | h | h | h | h <;> first | (exfalso; omega) | (rw [h]; decide)), e]
    have h6 := putT_len (txt d a) a.op (leftOf x.op)
    have h7 := putT_len (txt d b) b.op (lvl x.op + 1)
    simp only [lens_cons, lens_nil, List.length_append, List.length_cons, List.length_nil, List.getD_cons_zero, List.getD_cons_succ]
    omega

/-- every number of an expression is a number of 64 bits -/
def numsOk : Nat → Ex → Prop
  | 0, _ => True
  | d + 1, x => -9223372036854775808 ≤ x.n ∧ x.n ≤ 9223372036854775807 ∧ ∀ y ∈ x.l, numsOk d y
theorem ExIn.nums {w : World} {L B : Nat} : ∀ {d : Nat} {x : Ex} {v : Value}, ExIn w L B d x v → numsOk d x
  | 0, _, _, _ => trivial
  | d + 1, x, v, h => by
    obtain ⟨A, cap, hv, hr, hc⟩ := h
    refine ⟨hr.2.2.1, hr.2.2.2.1, fun y hy => ?_⟩
    obtain ⟨i, hi, rfl⟩ := List.getElem_of_mem hy
    obtain ⟨_, _, _, _, _, _, _, _, _, _, h'⟩ := hc i hi
    have e : x.l.getD i Ex.nil = x.l[i] := by simp [hi]
    rw [e] at h'
    exact ExIn.nums h'
/-- a shaped expression of depth d has a short text -/
theorem sh_short : ∀ {d : Nat} {x : Ex}, shB d x = true → numsOk d x → (txt d x).length + 64 ≤ 64 * 2 ^ d
  | 0, _, h, _ => by simp [shB] at h
  | d + 1, x, h, hn => by
    have hh := h
    unfold shB at h
    simp only [Bool.and_eq_true, List.all_eq_true] at h
    have ha := head_arity h.1
    have hp : 1 ≤ 2 ^ d := Nat.one_le_two_pow
    have key : lens d x.l + 64 * 2 ≤ 64 * 2 ^ d * 2 := by
      have hl2 : x.l.length ≤ 2 := by
        have : arity x.op ≤ 2 := by unfold arity; split; · omega
                                    split; · omega
                                    split <;> omega
        omega
      match hx : x.l, hl2 with
      | [], _ => simp only [lens_nil]; omega
      | [a], _ =>
        have := sh_short (h.2 a (by simp [hx])) (hn.2.2 a (by simp [hx]))
        simp only [lens_cons, lens_nil]; omega
      | [a, b], _ =>
        have := sh_short (h.2 a (by simp [hx])) (hn.2.2 a (by simp [hx]))
        have := sh_short (h.2 b (by simp [hx])) (hn.2.2 b (by simp [hx]))
        simp only [lens_cons, lens_nil]; omega
    have ht := txt_len (d := d) hn.1 hn.2.1 ha
    rw [Nat.pow_succ]
    by_cases hnm : x.op = 2 ∨ x.op = 3
    · have := name_short (head_name h.1 hnm)
      have : nmLen x = x.name.size := if_pos hnm
      omega
    · have : nmLen x = 0 := if_neg hnm
      omega
end Go.Proofs.YtliiehfjcplieaaDoor
