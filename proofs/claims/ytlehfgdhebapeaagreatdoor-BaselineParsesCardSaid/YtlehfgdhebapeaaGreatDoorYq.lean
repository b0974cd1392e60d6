/- Plain: texts cut at one character. -/
import Derived.Test.YtlehfgdhebapeaaGreatDoorNb
set_option linter.all false
namespace Go.Proofs.YtlehfgdhebapeaaGreatDoor.KM
open Go
theorem index_one (c : UInt8) : ∀ s : List UInt8, (c ∉ s → Lib.index s [c] = -1) ∧ ∀ a r, s = a ++ c :: r → c ∉ a → Lib.index s [c] = (a.length : Int)
  | [] => ⟨fun _ => rfl, fun a r h => by simp at h⟩
  | b :: l => by
    obtain ⟨h1, h2⟩ := index_one c l
    have hp : List.isPrefixOf [c] (b :: l) = (c == b) := by simp [List.isPrefixOf]
    refine ⟨fun hn => ?_, fun a r h ha => ?_⟩
    · have hb : (c == b) = false := by simp at hn ⊢; exact hn.1
      unfold Lib.index
      rw [hp, hb, h1 (by simp at hn; exact hn.2)]
      rfl
    · match a, h, ha with
      | [], h, _ =>
        simp at h
        unfold Lib.index
        rw [hp]
        simp [h.1]
      | x :: a, h, ha =>
        simp only [List.cons_append, List.cons.injEq] at h
        obtain ⟨rfl, rfl⟩ := h
        have hb : (c == b) = false := by simp at ha ⊢; exact ha.1
        have h3 := h2 a r rfl (by simp at ha; exact ha.2)
        unfold Lib.index
        rw [hp, hb, h3]
        have : ((a.length : Int) == -1) = false := by simp
        simp only [Bool.false_eq_true, if_false, this, List.length_cons]
        omega
theorem cut_hit {c : UInt8} {a r : List UInt8} (h : c ∉ a) : Lib.cut (a ++ c :: r) [c] = (a, r, true) := by
  have hi := (index_one c (a ++ c :: r)).2 a r rfl h
  unfold Lib.cut
  rw [hi, if_pos (by omega)]
  simp
def spl (c : UInt8) (k : Nat) (s : List UInt8) : List (List UInt8) := (Lib.splitB ⟨#[c]⟩ 0 k ⟨s.toArray⟩).map fun b => b.data.toList
theorem ib_eq (s : List UInt8) (c : UInt8) : Lib.indexB ⟨s.toArray⟩ ⟨#[c]⟩ = Lib.index s [c] := rfl
theorem spl_miss {c : UInt8} {k : Nat} {s : List UInt8} (h : c ∉ s) : spl c k s = [s] := by
  unfold spl
  rw [Lib.splitB_miss _ _ _ _ (by rw [ib_eq]; exact (index_one c s).1 h)]
  rfl
theorem spl_zero (c : UInt8) (s : List UInt8) : spl c 0 s = [s] := rfl
theorem ext_list (s : List UInt8) (a b : Nat) : ((⟨s.toArray⟩ : ByteArray).extract a b) = ⟨((s.drop a).take (b - a)).toArray⟩ := by
  apply ByteArray.ext
  simp [ByteArray.data_extract]
theorem spl_hit {c : UInt8} {k : Nat} {a r : List UInt8} (h : c ∉ a) : spl c (k + 1) (a ++ c :: r) = a :: spl c k r := by
  have hi := (index_one c (a ++ c :: r)).2 a r rfl h
  unfold spl
  rw [Lib.splitB_hit _ _ _ _ a.length (by rw [ib_eq]; exact hi), ext_list, ext_list]
  have e1 : (⟨#[c]⟩ : ByteArray).size = 1 := rfl
  have e2 : (⟨(a ++ c :: r).toArray⟩ : ByteArray).size = (a ++ c :: r).length := mk_size ..
  have e3 : (a ++ c :: r).drop (a.length + 1) = r := by rw [List.drop_append]; simp
  rw [e1, e2, e3]
  simp only [List.map_cons, Nat.add_zero, Nat.sub_zero, List.drop_zero, List.take_left, List.length_append, List.length_cons]
  rw [List.take_of_length_le (by omega)]
end Go.Proofs.YtlehfgdhebapeaaGreatDoor.KM
