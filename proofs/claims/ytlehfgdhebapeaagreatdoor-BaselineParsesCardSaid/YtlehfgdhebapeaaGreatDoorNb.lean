/- strings.Split and strings.SplitN, known by what they return. -/
import Derived.Test.YtlehfgdhebapeaaGreatDoorNa
import Derived.Lib.SplitLaws
set_option linter.all false
namespace Go.Proofs.YtlehfgdhebapeaaGreatDoor.KM
open Go Go.RowKit Go.Sort
variable {G : List (Nat × List V)}
theorem ext_size (s : ByteArray) (a b : Nat) : (s.extract a b).size ≤ s.size := by
  rw [ByteArray.size_extract]
  omega
theorem splitB_sizes (sep : ByteArray) : ∀ (k : Nat) (s : ByteArray) (b : ByteArray), b ∈ Lib.splitB sep 0 k s → b.size ≤ s.size
  | 0, s, b, h => by
    rw [Lib.splitB_zero, List.mem_singleton] at h
    rw [h]
    exact Nat.le_refl _
  | k + 1, s, b, h => by
    unfold Lib.splitB at h
    split at h
    · rw [List.mem_singleton] at h
      rw [h]
      exact Nat.le_refl _
    · rcases List.mem_cons.1 h with h | h
      · rw [h]
        exact ext_size ..
      · exact Nat.le_trans (splitB_sizes sep k _ b h) (ext_size ..)
theorem pieces_rep (κ : Kap) (w : World) (l : List ByteArray) (t N : Nat) (ty : TypeId) (arr : Array Value) (ht : t = 1 → N = l.length) (hl : l.length ≤ N) (hN : N ≤ maxLen) (hb : ∀ b ∈ l, b.size ≤ maxLen) (ha : ∀ (i : Nat) (b : ByteArray), l[i]? = some b → arr[i]? = some (Value.string b)) :
    RepV ⟨fun b => if b = w.heap.size then some l.length else κ b, []⟩ (w.alloc (.cells arr ty)) (.lst t (l.map fun b => [.str b.data.toList])) (.slice (some ⟨w.heap.size, 0, none⟩) l.length N) := by
  have hlen : (l.map fun b => [V.str b.data.toList]).length = l.length := List.length_map ..
  have hat : ∀ {i : Nat}, i < l.length → ∃ b, l[i]? = some b ∧ (l.map fun b => [V.str b.data.toList]).getD i [] = [.str b.data.toList] := by
    intro i hi
    refine ⟨l[i], List.getElem?_eq_getElem hi, ?_⟩
    simp [List.getD, hi]
  have h : RepR (fun b => if b = w.heap.size then some l.length else κ b) (w.alloc (.cells arr ty)) (.lst t (l.map fun b => [.str b.data.toList])) (.slice (some ⟨w.heap.size, 0, none⟩) (l.map fun b => [V.str b.data.toList]).length N) := by
    refine .lst (m := 1) (fun i _ => Value.string (l.getD i ByteArray.empty)) (fun h1 => by rw [hlen]; exact ht h1) (by rw [hlen]; exact hl) hN (fun _ => ⟨rfl, l.length, by simp, by simp⟩) ?_ ?_ ?_
    · intro i hi
      obtain ⟨b, -, hb⟩ := hat (by rwa [hlen] at hi)
      rw [hb]
      rfl
    · intro i j hi hj
      obtain rfl : j = 0 := by omega
      obtain ⟨b, h1, -⟩ := hat (by rwa [hlen] at hi)
      simp only [Nat.zero_add, Nat.mul_one, Nat.add_zero]
      rw [World.cell?_alloc_new, ha i b h1]
      simp [List.getD, h1]
    · intro i j hi hj
      obtain rfl : j = 0 := by omega
      obtain ⟨b, h1, h2⟩ := hat (by rwa [hlen] at hi)
      rw [h2]
      simp only [List.getD_cons_zero]
      rw [show l.getD i ByteArray.empty = b by simp [List.getD, h1]]
      have := RepR.str (κ := fun b => if b = w.heap.size then some l.length else κ b) (w := w.alloc (.cells arr ty)) (l := b.data.toList) (hb b (List.mem_of_getElem? h1))
      exact this
  rw [hlen] at h
  exact repV_of (.row h)
theorem split_ok {m : Int} (hin : (1, [V.int .i64 m]) ∈ G) : PrimOk Tryz.prog G 63 splitS := by
  refine ⟨⟨Tryz.f63, _, by kernel_rfl, rfl, by decide⟩, fun κ w vs us v hg hs hd hl ha h => ?_⟩
  unfold splitS at h
  split at h
  · rename_i s p
    split at h
    · rename_i hlt
      cases h
      obtain ⟨a, b, rfl⟩ := two hl
      obtain ⟨h1, hm⟩ := repC_str (rep1_cell rfl (ha 0 (by simp)))
      have h2 := (repC_str (rep1_cell rfl (ha 1 (by simp)))).1
      have h1 : a = .string ⟨s.toArray⟩ := h1
      have h2 : b = .string ⟨p.toArray⟩ := h2
      subst h1 h2
      have hps : 1 ≤ (⟨p.toArray⟩ : ByteArray).size := by rw [mk_size]; exact hlt.1
      have hlen := Lib.splitB_all ⟨p.toArray⟩ hps 0 _ ⟨s.toArray⟩ rfl
      have hcl := Lib.countB_le ⟨p.toArray⟩ hps _ ⟨s.toArray⟩ (Nat.le_refl _)
      rw [mk_size] at hcl
      refine (Tryz.strings_Split ⟨s.toArray⟩ ⟨p.toArray⟩ m w (by rw [mk_size]; exact hlt.2) (cell0_of hg hin) hps).mono ?_
      rintro e w' ⟨rfl, rfl⟩
      refine ⟨_, fun b => if b = w.heap.size then some (Lib.splitB ⟨p.toArray⟩ 0 (Lib.countB ⟨s.toArray⟩ ⟨p.toArray⟩) ⟨s.toArray⟩).length else κ b, rfl, ?_, Below.alloc (Below.refl _ _) (Nat.le_refl _) _, fun b hb => if_neg (by omega), fun b k hk => ?_⟩
      · rw [← hlen]
        refine pieces_rep κ w _ 1 _ _ _ (fun _ => rfl) (Nat.le_refl _) ?_ (fun b hb => ?_) (fun i b hi => ?_)
        · rw [hlen]
          simp only [maxLen]
          omega
        · have h3 := splitB_sizes _ _ _ b hb
          have e : (⟨s.toArray⟩ : ByteArray).size = s.length := mk_size ..
          omega
        · simp [hi]
      · simp only at hk
        split at hk
        · subst_vars
          simp
        · have := hd b k hk
          simp
          omega
    · cases h
  · cases h
theorem three3 {α : Type} {us : List α} (h : 3 = us.length) : ∃ a b c, us = [a, b, c] := by
  match us, h with
  | [a, b, c], _ => exact ⟨a, b, c, rfl⟩
theorem splitN_ok {m : Int} (hin : (1, [V.int .i64 m]) ∈ G) : PrimOk Tryz.prog G 104 splitNS := by
  refine ⟨⟨Tryz.f104, _, by kernel_rfl, rfl, by decide⟩, fun κ w vs us v hg hs hd hl ha h => ?_⟩
  unfold splitNS at h
  split at h
  · rename_i s p n
    split at h
    · rename_i hlt
      cases h
      obtain ⟨a, b, c, rfl⟩ := three3 hl
      obtain ⟨h1, hm⟩ := repC_str (rep1_cell rfl (ha 0 (by simp)))
      have h2 := (repC_str (rep1_cell rfl (ha 1 (by simp)))).1
      have h3 := repC_int (rep1_cell rfl (ha 2 (by simp)))
      have h1 : a = .string ⟨s.toArray⟩ := h1
      have h2 : b = .string ⟨p.toArray⟩ := h2
      have h3 : c = .int .i64 n := h3
      subst h1 h2 h3
      have hps : 1 ≤ (⟨p.toArray⟩ : ByteArray).size := by rw [mk_size]; exact hlt.1
      have e : (⟨s.toArray⟩ : ByteArray).size = s.length := mk_size ..
      obtain ⟨k, rfl⟩ : ∃ k : Nat, n = (k : Int) := ⟨n.toNat, by omega⟩
      have hk1 : 1 ≤ k := by omega
      have hlen := Lib.splitB_length_le ⟨p.toArray⟩ 0 (min k (s.length + 1) - 1) ⟨s.toArray⟩
      have hc := Tryz.strings_SplitN ⟨s.toArray⟩ ⟨p.toArray⟩ k m w (by rw [mk_size]; exact hlt.2.1) (cell0_of hg hin) hps hk1 (by omega)
      rw [e] at hc
      refine hc.mono ?_
      rintro e' w' ⟨rfl, rfl⟩
      refine ⟨_, fun b => if b = w.heap.size then some (Lib.splitB ⟨p.toArray⟩ 0 (min k (s.length + 1) - 1) ⟨s.toArray⟩).length else κ b, rfl, ?_, Below.alloc (Below.refl _ _) (Nat.le_refl _) _, fun b hb => if_neg (by omega), fun b k2 hk => ?_⟩
      · rw [Int.toNat_natCast]
        refine pieces_rep κ w _ 0 _ _ _ (fun h0 => by cases h0) (by omega) ?_ (fun b hb => ?_) (fun i b hi => ?_)
        · simp only [maxLen]
          omega
        · have h4 := splitB_sizes _ _ _ b hb
          omega
        · have hil := (List.getElem?_eq_some_iff.1 hi).1
          unfold Lib.cellsOf
          simp only [List.getElem?_toArray]
          rw [List.getElem?_append_left (by simpa using hil), List.getElem?_map, hi]
          rfl
      · simp only at hk
        split at hk
        · subst_vars
          simp
        · have := hd b k2 hk
          simp
          omega
    · cases h
  · cases h
end Go.Proofs.YtlehfgdhebapeaaGreatDoor.KM
