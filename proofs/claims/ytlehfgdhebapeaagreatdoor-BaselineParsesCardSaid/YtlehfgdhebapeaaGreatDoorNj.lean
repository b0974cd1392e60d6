/- token.IsName and token.IsKeyword, known by what they return. -/
import Derived.Test.YtlehfgdhebapeaaGreatDoorA5
import Derived.Test.YtlehfgdhebapeaaGreatDoorProg
import Derived.WalkSpells
import Derived.WalkLawsBesides
import Derived.BigQuiet
import Derived.BigGuardPart
import Derived.Lib.Hide
import Derived.LoopTactic
import Derived.Laws.RangeAny
set_option linter.all false
namespace Go.Proofs.YtlehfgdhebapeaaGreatDoor.KM
open Go Go.RowKit
def kwL : List (List UInt8) := [[118, 97, 114], [118, 111, 108, 97, 116, 105, 108, 101], [109, 117, 116, 101, 120], [114, 119, 108, 111, 99, 107], [99, 111, 110, 100], [102, 117, 116, 117, 114, 101], [116, 104, 114, 101, 97, 100], [105, 102], [101, 108, 115, 101], [119, 104, 105, 108, 101], [108, 111, 99, 107], [114, 101, 97, 100], [119, 114, 105, 116, 101], [116, 114, 97, 110, 115, 97, 99, 116, 105, 111, 110], [97, 116, 111, 109, 105, 99], [119, 97, 105, 116], [110, 111, 116, 105, 102, 121], [110, 111, 116, 105, 102, 121, 97, 108, 108], [115, 112, 97, 119, 110], [106, 111, 105, 110], [115, 101, 116], [103, 101, 116]]
def gKw : List V := kwL.map V.str
def kwE (l : List UInt8) : Bool := kwL.any fun k => l == k
def letN (n : Nat) : Bool := (decide (97 ≤ n) && decide (n ≤ 122)) || (decide (65 ≤ n) && decide (n ≤ 90))
def digN (n : Nat) : Bool := decide (48 ≤ n) && decide (n ≤ 57)
def innN (n : Nat) : Bool := letN n || (digN n || n == 95)
def nmC (l : List UInt8) (j : Nat) : Bool := letN (l.getD j 0).toNat || (decide (0 < j) && ((l.getD j 0).toNat == 95 || digN (l.getD j 0).toNat))
def isNameE (l : List UInt8) : Bool := decide (1 ≤ l.length) && (decide (l.length ≤ 12) && (!kwE l && (List.range l.length).all (nmC l)))
def nameS : List V → Option V
  | [.str l] => some (.bool (isNameE l))
  | _ => none
def kwS : List V → Option V
  | [.str l] => some (.bool (kwE l))
  | _ => none
theorem name_f1 {l : List UInt8} (h : l.length < 1) : isNameE l = false := by
  unfold isNameE
  rw [decide_eq_false (by omega)]
  rfl
theorem name_f2 {l : List UInt8} (h : 12 < l.length) : isNameE l = false := by
  unfold isNameE
  rw [decide_eq_false (show ¬ l.length ≤ 12 by omega)]
  simp
theorem name_f3 {l : List UInt8} (h : kwE l = true) : isNameE l = false := by
  unfold isNameE
  rw [h]
  simp
theorem name_f4 {l : List UInt8} {j : Nat} (hj : j < l.length) (h : nmC l j = false) : isNameE l = false := by
  unfold isNameE
  have : (List.range l.length).all (nmC l) = false := by
    rw [← Bool.not_eq_true]
    intro hall
    have := List.all_eq_true.1 hall j (List.mem_range.2 hj)
    rw [h] at this
    cases this
  rw [this]
  simp
theorem name_t {l : List UInt8} (h1 : 1 ≤ l.length) (h2 : l.length ≤ 12) (h3 : kwE l = false) (h4 : ∀ j, j < l.length → nmC l j = true) : isNameE l = true := by
  unfold isNameE
  rw [decide_eq_true h1, decide_eq_true h2, h3, List.all_eq_true.2 fun j hj => h4 j (List.mem_range.1 hj)]
  rfl
theorem ret_bool {a b : Bool} (h : a = b) : Ending.returned (.bool a) = .returned (.bool b) := by rw [h]
theorem at_getD (s : ByteArray) (i : Nat) (h : i < s.size) : s[i] = s.data.toList.getD i 0 := by
  have h' : i < s.data.size := h
  rw [ByteArray.getElem_eq_getElem_data, List.getD_eq_getElem?_getD, Array.getElem?_toList, Array.getElem?_eq_getElem h']
  rfl
def Good (d : Int) (pos : Nat) : Prop := (97 ≤ d ∧ d ≤ 122) ∨ (65 ≤ d ∧ d ≤ 90) ∨ (0 < pos ∧ (d = 95 ∨ (48 ≤ d ∧ d ≤ 57)))
theorem nmC_iff (l : List UInt8) (j : Nat) : nmC l j = true ↔ Good ((l.getD j 0).toNat : Int) j := by
  unfold nmC letN digN Good
  simp only [Bool.or_eq_true, Bool.and_eq_true, decide_eq_true_eq, beq_iff_eq]
  omega
theorem dec_good (s : ByteArray) {pos : Nat} (hp : pos < s.size) (h : (97 ≤ ((Utf8.decode s pos).1 : Int) ∧ ((Utf8.decode s pos).1 : Int) ≤ 122) ∨ (65 ≤ ((Utf8.decode s pos).1 : Int) ∧ ((Utf8.decode s pos).1 : Int) ≤ 90) ∨ (0 < pos ∧ (((Utf8.decode s pos).1 : Int) = 95 ∨ (48 ≤ ((Utf8.decode s pos).1 : Int) ∧ ((Utf8.decode s pos).1 : Int) ≤ 57)))) :
    (Utf8.decode s pos).2 = 1 ∧ nmC s.data.toList pos = true := by
  by_cases ha : (s[pos]'hp).toNat < 128
  · rw [decode_ascii s pos hp ha] at h ⊢
    refine ⟨rfl, (nmC_iff _ _).2 ?_⟩
    rw [← at_getD s pos hp]
    exact h
  · have := (decode_high s pos hp (by omega)).1
    omega
theorem dec_bad (s : ByteArray) {pos : Nat} (hp : pos < s.size) (h : ¬ ((97 ≤ ((Utf8.decode s pos).1 : Int) ∧ ((Utf8.decode s pos).1 : Int) ≤ 122) ∨ (65 ≤ ((Utf8.decode s pos).1 : Int) ∧ ((Utf8.decode s pos).1 : Int) ≤ 90) ∨ (0 < pos ∧ (((Utf8.decode s pos).1 : Int) = 95 ∨ (48 ≤ ((Utf8.decode s pos).1 : Int) ∧ ((Utf8.decode s pos).1 : Int) ≤ 57))))) :
    nmC s.data.toList pos = false := by
  rw [← Bool.not_eq_true, nmC_iff, ← at_getD s pos hp]
  by_cases ha : (s[pos]'hp).toNat < 128
  · rw [decode_ascii s pos hp ha] at h
    exact h
  · unfold Good
    omega
set_option maxHeartbeats 800000 in
theorem isName_go (s : ByteArray) (w : World) (hkw : Calls Tryz.prog 159 #[.string s] w fun e w' => e = .returned (.bool (kwE s.data.toList)) ∧ Below w.heap.size w w') :
    Calls Tryz.prog 190 #[.string s] w fun e w' => e = .returned (.bool (isNameE s.data.toList)) ∧ Below w.heap.size w w' := by
  have hsz : s.data.toList.length = s.size := rfl
  by_cases c1 : s.size < 1
  · have d1 : decide ((s.size : Int) < 1) = true := by simp; omega
    have HN := Lib.hid (name_f1 (l := s.data.toList) (by omega))
    go_enter Tryz.func190, Tryz.ntmps190
    go_wp2_with fail
    go_ret
    exact ⟨ret_bool HN.out.symm, Below.refl _ _⟩
  have d1 : decide ((s.size : Int) < 1) = false := by simp; omega
  by_cases c2 : 12 < s.size
  · have d2 : decide ((12 : Int) < (s.size : Int)) = true := by simp; omega
    have HN := Lib.hid (name_f2 (l := s.data.toList) (by omega))
    go_enter Tryz.func190, Tryz.ntmps190
    go_wp2_with fail
    go_ret
    exact ⟨ret_bool HN.out.symm, Below.refl _ _⟩
  have d2 : decide ((12 : Int) < (s.size : Int)) = false := by simp; omega
  cases c4 : kwE s.data.toList
  rotate_left
  · have HN := Lib.hid (name_f3 c4)
    rw [c4] at hkw
    go_enter Tryz.func190, Tryz.ntmps190
    go_wp2_with (go_at_call 159; refine hkw.mono ?_; rintro e w1 ⟨rfl, hb1⟩)
    go_ret
    exact ⟨ret_bool HN.out.symm, hb1⟩
  · have HY := Lib.hid (fun h5 => name_t (l := s.data.toList) (by omega) (by omega) c4 h5)
    rw [c4] at hkw
    go_enter Tryz.func190, Tryz.ntmps190
    go_wp2_with (go_at_call 159; refine hkw.mono ?_; rintro e w1 ⟨rfl, hb1⟩)
    go_loopw [] (fun w' => ∃ pos : Nat, w' = w1.iter s pos ∧ ∀ j, j < pos → nmC s.data.toList j = true) (fun w' => s.size - w'.iterPos w1.heap.size)
    case atStart => exact ⟨0, rfl, fun j hj => by omega⟩
    case round =>
      obtain ⟨pos, rfl, hno⟩ := hrel
      have HN := Lib.hid hno
      clear hno
      by_cases hp : pos < s.size
      · have hnx : ∀ ty, (Instr.next (.pointer (some ⟨w1.heap.size, 0, none⟩)) true ty).run Tryz.prog (w1.iter s pos) = _ := fun ty => run_next_any w1 s pos ty hp
        go_wp2_with fail
        all_goals first
          | (go_ret
             exact ⟨ret_bool (name_f4 hp (dec_bad s hp (by omega))).symm, hb1.alloc hb1.size _⟩)
          | (have hg := dec_good s hp (by omega)
             go_roundw
             case rel =>
               refine ⟨pos + (Utf8.decode s pos).2, rfl, fun j hj => ?_⟩
               by_cases e : j = pos
               · rw [e]; exact hg.2
               · exact HN.out j (by omega)
             case measure =>
               simp
               omega)
      · have hnx : ∀ ty, (Instr.next (.pointer (some ⟨w1.heap.size, 0, none⟩)) true ty).run Tryz.prog (w1.iter s pos) = _ := fun ty => run_next_end w1 s pos ty hp
        go_wp2_with fail
        go_ret
        exact ⟨ret_bool (HY.out fun j hj => HN.out j (by omega)).symm, hb1.alloc hb1.size _⟩
end Go.Proofs.YtlehfgdhebapeaaGreatDoor.KM
