/- interleaveref01: which strings are names. -/
import Derived.Test.YtliiehfjcplieaaDoorPlain
import Derived.Test.YtliiehfjcplieaaDoorProg
import Derived.WalkSpells
import Derived.WalkLawsBesides
import Derived.BigQuiet
import Derived.BigGuardPart
import Derived.Lib.Hide
import Derived.Deep.LoopGhost
namespace Go.Proofs.YtliiehfjcplieaaDoor
open Go.RowKit

def letterB (c : Int) : Bool := (decide (97 ≤ c) && decide (c ≤ 122)) || (decide (65 ≤ c) && decide (c ≤ 90))
def digitB (c : Int) : Bool := decide (48 ≤ c) && decide (c ≤ 57)
def innerB (c : Int) : Bool := letterB c || (digitB c || (c == 95))

set_option maxHeartbeats 400000 in
theorem letter_any (c : Int) (w : World) :
    Calls Tryd.prog 57 #[.int .u8 c] w fun e w' => e = .returned (.bool (letterB c)) ∧ w = w' := by
  go_enter Tryd.func57, Tryd.ntmps57
  go_wp2
  all_goals go_ret
  all_goals exact ⟨ret_bool (by rw [Bool.eq_iff_iff]; simp [letterB]; omega), rfl⟩
set_option maxHeartbeats 400000 in
theorem digit_any (c : Int) (w : World) :
    Calls Tryd.prog 82 #[.int .u8 c] w fun e w' => e = .returned (.bool (digitB c)) ∧ w = w' := by
  go_enter Tryd.func82, Tryd.ntmps82
  go_wp2
  all_goals go_ret
  all_goals exact ⟨ret_bool (by rw [Bool.eq_iff_iff]; simp [digitB]; omega), rfl⟩
set_option maxHeartbeats 400000 in
theorem inner_any (c : Int) (w : World) :
    Calls Tryd.prog 59 #[.int .u8 c] w fun e w' => e = .returned (.bool (innerB c)) ∧ w = w' := by
  go_enter Tryd.func59, Tryd.ntmps59
  go_wp2_with (first | (go_at_call 57; refine (letter_any _ _).mono ?_; rintro e w' ⟨rfl, rfl⟩) | (go_at_call 82; refine (digit_any _ _).mono ?_; rintro e w' ⟨rfl, rfl⟩))
  all_goals go_ret
  all_goals exact ⟨ret_bool (by simp [innerB, *]), rfl⟩

def kwList : List ByteArray := [⟨#[118, 97, 114]⟩, ⟨#[118, 111, 108, 97, 116, 105, 108, 101]⟩, ⟨#[109, 117, 116, 101, 120]⟩, ⟨#[114, 119, 108, 111, 99, 107]⟩, ⟨#[99, 111, 110, 100]⟩, ⟨#[102, 117, 116, 117, 114, 101]⟩, ⟨#[116, 104, 114, 101, 97, 100]⟩, ⟨#[105, 102]⟩, ⟨#[101, 108, 115, 101]⟩, ⟨#[119, 104, 105, 108, 101]⟩, ⟨#[108, 111, 99, 107]⟩, ⟨#[114, 101, 97, 100]⟩, ⟨#[119, 114, 105, 116, 101]⟩, ⟨#[116, 114, 97, 110, 115, 97, 99, 116, 105, 111, 110]⟩, ⟨#[97, 116, 111, 109, 105, 99]⟩, ⟨#[119, 97, 105, 116]⟩, ⟨#[110, 111, 116, 105, 102, 121]⟩, ⟨#[110, 111, 116, 105, 102, 121, 97, 108, 108]⟩, ⟨#[115, 112, 97, 119, 110]⟩, ⟨#[106, 111, 105, 110]⟩, ⟨#[115, 101, 116]⟩, ⟨#[103, 101, 116]⟩]

def kwAt (i : Nat) : ByteArray := kwList.getD i ⟨#[]⟩
set_option maxHeartbeats 400000 in
theorem keywords_any (w : World) :
    Calls Tryd.prog 81 #[] w fun e w' => e = .returned (.slice (some ⟨w.heap.size, 0, none⟩) 22 22) ∧ Below w.heap.size w w' ∧ w.heap.size < w'.heap.size ∧ ∀ i, i < 22 → w'.cell? ⟨w.heap.size, i, none⟩ = some (.string (kwAt i)) := by
  go_enter Tryd.func81, Tryd.ntmps81
  go_wp2
  go_ret
  refine ⟨rfl, (Below.refl _ _).alloc (Nat.le_refl _) _, by simp, ?_⟩
  intro i hi
  have h : (kwList.map Value.string).toArray[i]? = some (.string (kwAt i)) := by
    have hl : i < kwList.length := hi
    simp [hl, kwAt]
  exact (cell_of_row _ w.heap.size i (kwList.map Value.string).toArray 9 (0, 0) (heap_alloc_new w _)).trans h

/-- is it a keyword? -/
def kwB (s : ByteArray) : Bool := kwList.any (fun k => k.toList == s.toList)
theorem kw_yes {s : ByteArray} {k : Nat} (hk : k < 22) (h : ((kwAt k).toList == s.toList) = true) : kwB s = true := by
  have hl : k < kwList.length := hk
  unfold kwB
  rw [List.any_eq_true]
  exact ⟨kwAt k, by unfold kwAt; simp [hl], h⟩
theorem kw_no {s : ByteArray} (h : ∀ j, j < 22 → ((kwAt j).toList == s.toList) = false) : kwB s = false := by
  unfold kwB
  rw [List.any_eq_false]
  intro x hx
  obtain ⟨i, hi, rfl⟩ := List.getElem_of_mem hx
  have := h i hi
  unfold kwAt at this
  simpa [hi] using this

set_option maxHeartbeats 400000 in
theorem isKeyword_any (s : ByteArray) (w : World) :
    Calls Tryd.prog 58 #[.string s] w fun e w' => e = .returned (.bool (kwB s)) ∧ Below w.heap.size w w' := by
  go_enter Tryd.func58, Tryd.ntmps58
  go_wp2_with (go_at_call 81; refine (keywords_any _).mono ?_; rintro e w1 ⟨rfl, hb1, hz1, hc1⟩)
  have HC := Lib.hid hc1
  clear hc1
  go_loop [4] (fun i => ∃ k : Nat, k ≤ 22 ∧ i = .int .i64 k ∧ ∀ j, j < k → ((kwAt j).toList == s.toList) = false) (fun i => 22 - (intOf i).toNat)
  case atStart => exact ⟨0, by omega, rfl, fun j hj => by omega⟩
  case round =>
    obtain ⟨k, hk, rfl, hno⟩ := hrel
    have HN := Lib.hid hno
    clear hno
    by_cases hlt : k < 22
    · have hcell := HC.out k hlt
      by_cases he : ((kwAt k).toList == s.toList) = true
      · have HE := kw_yes hlt he
        go_wp2_with fail
        go_ret
        exact ⟨ret_bool (by simp [HE]), hb1⟩
      · have he' : ((kwAt k).toList == s.toList) = false := by simpa using he
        clear he
        go_wp2_with fail
        go_round
        case rel =>
          refine ⟨k + 1, by omega, by go_num, fun j hj => ?_⟩
          by_cases h : j = k
          · subst h; exact he'
          · exact HN.out j (by omega)
        case measure => simp [intOf]; omega
    · go_wp2_with fail
      go_ret
      exact ⟨ret_bool (kw_no fun j hj => HN.out j (by omega)).symm, hb1⟩

/-- byte i of a string -/
def byteAt (s : ByteArray) (i : Nat) : Int := ((s.data.toList.getD i 0).toNat : Int)
theorem byteAt_eq (s : ByteArray) (i : Nat) (h : i < s.size) : (s[i].toNat : Int) = byteAt s i := by
  unfold byteAt
  have h' : i < s.data.size := h
  rw [ByteArray.getElem_eq_getElem_data, List.getD_eq_getElem?_getD, Array.getElem?_toList, Array.getElem?_eq_getElem h']
  rfl
/-- is it a name? -/
def nameB (s : ByteArray) : Bool := decide (1 ≤ s.size) && (decide (s.size ≤ 12) && (letterB (byteAt s 0) && (!kwB s && decide (∀ i, i < s.size → innerB (byteAt s i) = true))))
theorem name_no1 {s : ByteArray} (h : s.size < 1) : nameB s = false := by unfold nameB; simp; omega
theorem name_no2 {s : ByteArray} (h : 12 < s.size) : nameB s = false := by unfold nameB; simp; omega
theorem name_no3 {s : ByteArray} (h0 : 0 < s.size) (h : letterB (s[0].toNat : Int) = false) : nameB s = false := by
  rw [byteAt_eq s 0 h0] at h
  unfold nameB; simp [h]
theorem name_no4 {s : ByteArray} (h : kwB s = true) : nameB s = false := by unfold nameB; simp [h]
theorem name_no5 {s : ByteArray} {k : Nat} (h0 : k < s.size) (h : innerB (s[k].toNat : Int) = false) : nameB s = false := by
  rw [byteAt_eq s k h0] at h
  have : ¬ ∀ i, i < s.size → innerB (byteAt s i) = true := fun hh => by rw [hh k h0] at h; cases h
  unfold nameB; simp [this]
theorem name_yes {s : ByteArray} (h1 : 1 ≤ s.size) (h2 : s.size ≤ 12) (h3 : letterB (s[0].toNat : Int) = true) (h4 : kwB s = false) (h5 : ∀ i, i < s.size → innerB (byteAt s i) = true) : nameB s = true := by
  rw [byteAt_eq s 0 h1] at h3
  unfold nameB; rw [h3, h4, decide_eq_true h1, decide_eq_true h2, decide_eq_true h5]; rfl

set_option maxHeartbeats 400000 in
theorem isName_any (s : ByteArray) (w : World) :
    Calls Tryd.prog 29 #[.string s] w fun e w' => e = .returned (.bool (nameB s)) ∧ Below w.heap.size w w' := by
  by_cases c1 : s.size < 1
  · have HN := Lib.hid (name_no1 c1)
    have d1 : decide ((s.size : Int) < 1) = true := by simp; omega
    go_enter Tryd.func29, Tryd.ntmps29
    go_wp2_with (first | (go_at_call 57; refine (letter_any _ _).mono ?_; rintro e w1 ⟨rfl, rfl⟩) | (go_at_call 58; refine (isKeyword_any _ _).mono ?_; rintro e w1 ⟨rfl, hb1⟩))
    go_ret
    exact ⟨ret_bool HN.out.symm, Below.refl _ _⟩
  by_cases c2 : 12 < s.size
  · have HN := Lib.hid (name_no2 c2)
    have d1 : decide ((s.size : Int) < 1) = false := by simp; omega
    have d2 : decide ((12 : Int) < (s.size : Int)) = true := by simp; omega
    go_enter Tryd.func29, Tryd.ntmps29
    go_wp2_with (first | (go_at_call 57; refine (letter_any _ _).mono ?_; rintro e w1 ⟨rfl, rfl⟩) | (go_at_call 58; refine (isKeyword_any _ _).mono ?_; rintro e w1 ⟨rfl, hb1⟩))
    go_ret
    exact ⟨ret_bool HN.out.symm, Below.refl _ _⟩
  have h1 : 1 ≤ s.size := by omega
  have h2 : s.size ≤ 12 := by omega
  have d1 : decide ((s.size : Int) < 1) = false := by simp; omega
  have d2 : decide ((12 : Int) < (s.size : Int)) = false := by simp; omega
  cases c3 : letterB (s[0].toNat : Int)
  · have HN := Lib.hid (name_no3 h1 c3)
    go_enter Tryd.func29, Tryd.ntmps29
    go_wp2_with (first | (go_at_call 57; refine (letter_any _ _).mono ?_; rintro e w1 ⟨rfl, rfl⟩) | (go_at_call 58; refine (isKeyword_any _ _).mono ?_; rintro e w1 ⟨rfl, hb1⟩))
    go_ret
    exact ⟨ret_bool HN.out.symm, Below.refl _ _⟩
  cases c4 : kwB s
  rotate_left
  · have HN := Lib.hid (name_no4 c4)
    go_enter Tryd.func29, Tryd.ntmps29
    go_wp2_with (first | (go_at_call 57; refine (letter_any _ _).mono ?_; rintro e w1 ⟨rfl, rfl⟩) | (go_at_call 58; refine (isKeyword_any _ _).mono ?_; rintro e w1 ⟨rfl, hb1⟩))
    go_ret
    exact ⟨ret_bool HN.out.symm, hb1⟩
  · have HY := Lib.hid (fun h5 => name_yes h1 h2 c3 c4 h5)
    go_enter Tryd.func29, Tryd.ntmps29
    go_wp2_with (first | (go_at_call 57; refine (letter_any _ _).mono ?_; rintro e w1 ⟨rfl, rfl⟩) | (go_at_call 58; refine (isKeyword_any _ _).mono ?_; rintro e w1 ⟨rfl, hb1⟩))
    go_loopg [3] s.size (fun g i wr => ∃ k : Nat, k + g = s.size ∧ i = .int .i64 k ∧ wr = w1 ∧ ∀ j, j < k → innerB (byteAt s j) = true)
    case atStart => exact ⟨0, by omega, rfl, rfl, fun j hj => by omega⟩
    case round =>
      obtain ⟨k, hk, rfl, rfl, hno⟩ := hrel
      have HN := Lib.hid hno
      have HK := Lib.hid hk
      have hk' : k ≤ s.size := by omega
      clear hno hk
      by_cases hlt : k < s.size
      · go_wp2_with (go_at_call 59; refine (inner_any _ _).mono ?_; rintro e w2 ⟨rfl, rfl⟩)
        · have h : innerB (s[k].toNat : Int) = false := by simpa using ‹(!innerB (s[k].toNat : Int)) = true›
          go_ret
          exact ⟨ret_bool (name_no5 hlt h).symm, hb1⟩
        · have h : innerB (s[k].toNat : Int) = true := by simpa using ‹(!innerB (s[k].toNat : Int)) = false›
          have hk := HK.out
          go_roundg (gk - 1)
          case rel =>
            refine ⟨k + 1, by omega, by go_num, rfl, fun j hj => ?_⟩
            by_cases e : j = k
            · subst e; rw [← byteAt_eq s j hlt]; exact h
            · exact HN.out j (by omega)
          case measure => omega
      · go_wp2_with fail
        go_ret
        exact ⟨ret_bool (HY.out fun j hj => HN.out j (by omega)).symm, hb1⟩
end Go.Proofs.YtliiehfjcplieaaDoor
