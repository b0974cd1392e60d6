/- interleavemade: the tape, and the expressions that are made of numbers. -/
import Derived.Test.YtliiehfjcplieaaDoorFx
import Derived.Test.YtliiehfjcplieaaDoorLex
import Derived.Lib.QuietBelow
import Derived.Deep.LoopGhost
import Derived.Deep.RegionHeld3
import Derived.IntWalk
namespace Go.Proofs.YtliiehfjcplieaaDoor
open Go.RowKit Go.Sort

/-- a tape in block t: its numbers are a slice of bytes, at says how many have been taken -/
def TapeAt (w : World) (t : Nat) (A : Option Addr) (n cap : Nat) (at_ : Nat) : Prop :=
  w.heap[t]? = some (.cells #[.slice A n cap, .int .i64 at_] 56 (0, 0))
/-- the numbers of the tape can be read -/
def BytesAt (w : World) (B : Nat) (A : Option Addr) (n : Nat) : Prop :=
  ∀ i, i < n → ∃ b off c, A = some ⟨b, off, none⟩ ∧ b < B ∧ 0 ≤ c ∧ c ≤ 255 ∧ w.cell? ⟨b, off + i, none⟩ = some (.int .u8 c)

set_option maxHeartbeats 400000 in
theorem next_end (w : World) (t : Nat) (A : Option Addr) (n cap at_ : Nat) (m : Int) (hn : n ≤ 9223372036854775807) (h : TapeAt w t A n cap at_) (hend : n ≤ at_) (hat : at_ ≤ 9223372036854775807) :
    Calls Tryd.prog 30 #[.pointer (some ⟨t, 0, none⟩), .int .i64 m] w fun e w' => e = .returned (.int .i64 0) ∧ ∃ k, w' = w.drewN k := by
  have q0 : w.cell? ⟨t, 0, none⟩ = some (.slice A n cap) := Lib.cell_of_heap h 0
  have q1 : w.cell? ⟨t, 1, none⟩ = some (.int .i64 at_) := Lib.cell_of_heap h 1
  have d1 : decide (n ≤ at_) = true := by simpa using hend
  have d2 : decide ((n : Int) ≤ (at_ : Int)) = true := by simp; omega
  go_enter Tryd.func30, Tryd.ntmps30
  go_wp2_with fail
  go_quiet (fail)
  go_wp2_with fail
  go_ret
  exact ⟨rfl, _, rfl⟩
set_option maxHeartbeats 400000 in
theorem next_one (w : World) (t : Nat) (b off : Nat) (n cap at_ : Nat) (m c : Int) (hm : 1 ≤ m) (hm2 : m ≤ 1000) (hn : n ≤ 9223372036854775807) (h : TapeAt w t (some ⟨b, off, none⟩) n cap at_) (hlt : at_ < n)
    (hc : w.cell? ⟨b, off + at_, none⟩ = some (.int .u8 c)) (hc0 : 0 ≤ c) (hc1 : c ≤ 255) (hne : b ≠ t) :
    Calls Tryd.prog 30 #[.pointer (some ⟨t, 0, none⟩), .int .i64 m] w fun e w' => e = .returned (.int .i64 (c % m)) ∧ ∃ k, w' = (w.setCell ⟨t, 1, none⟩ (.int .i64 (at_ + 1))).drewN k := by
  have q0 : w.cell? ⟨t, 0, none⟩ = some (.slice (some ⟨b, off, none⟩) n cap) := Lib.cell_of_heap h 0
  have q1 : w.cell? ⟨t, 1, none⟩ = some (.int .i64 at_) := Lib.cell_of_heap h 1
  have q2 : w.frozen? ⟨t, 1, none⟩ = false := Lib.frozen_of_heap h 1
  have d1 : decide (n ≤ at_) = false := by simp; omega
  have d2 : decide ((n : Int) ≤ (at_ : Int)) = false := by simp; omega
  have d3 : decide (m < 1) = false := by simp; omega
  go_enter Tryd.func30, Tryd.ntmps30
  go_wp2_with fail
  go_quiet (fail)
  go_wp2_with fail
  have r0 : ((w.drewN nq).setCell ⟨t, 1, none⟩ (.int .i64 (at_ + 1))).cell? ⟨t, 0, none⟩ = some (.slice (some ⟨b, off, none⟩) n cap) := by
    rw [World.cell?_setCell_other _ _ _ _ (by simp)]; exact q0
  have r1 : ((w.drewN nq).setCell ⟨t, 1, none⟩ (.int .i64 (at_ + 1))).cell? ⟨t, 1, none⟩ = some (.int .i64 (at_ + 1)) := by
    have hlt' : t < w.heap.size := (Array.getElem?_eq_some_iff.1 h).1
    simp [World.cell?, World.setCell, World.drewN, Array.getElem?_modify, show w.heap[t]? = _ from h]
  have r2 : ((w.drewN nq).setCell ⟨t, 1, none⟩ (.int .i64 (at_ + 1))).cell? ⟨b, off + at_, none⟩ = some (.int .u8 c) := by
    rw [World.cell?_setCell_other _ _ _ _ (by simp; try (intro e; exact absurd e hne))]; exact hc
  clear q0 q1 q2 hc
  obtain ⟨W, hW⟩ : ∃ W, W = (w.drewN nq).setCell ⟨t, 1, none⟩ (.int .i64 (at_ + 1)) := ⟨_, rfl⟩
  rw [← hW] at r0 r1 r2 ⊢
  have HW : Hid (∀ j, ∃ k, W.drewN j = (w.setCell ⟨t, 1, none⟩ (.int .i64 (at_ + 1))).drewN k) := fun j => ⟨nq + j, by rw [hW, ← World.drewN_drewN]; rfl⟩
  clear hW
  have w1 : IntKind.i64.wrap ((at_ : Int) + 1 - 1) = (at_ : Int) := by rw [IntWalk.i64_in _ (by omega)]; omega
  have w2 : c.tmod m = c % m := Int.tmod_eq_emod_of_nonneg hc0
  have w3 : IntKind.i64.wrap (c % m) = c % m := IntWalk.i64_in _ (by have := Int.emod_nonneg c (show m ≠ 0 by omega); have := Int.emod_lt_of_pos c (show 0 < m by omega); omega)
  have w4 : (m == 0) = false := by simp; omega
  have w5 : IntKind.i64.wrap c = c := IntWalk.i64_in _ (by omega)
  have w6 : (at_ : Int) < (n : Int) := by omega
  go_quiet (fail)
  go_wp2_with fail
  go_ret
  exact ⟨rfl, HW.out _⟩

/-- WHATEVER THE TAPE HOLDS: a number from 0 to m - 1; the tape alone has turned -/
theorem next_any (w : World) (B t : Nat) (A : Option Addr) (n cap at_ : Nat) (m : Int) (hm : 1 ≤ m) (hm2 : m ≤ 1000) (hn : n ≤ 9223372036854775807) (hat : at_ ≤ 9223372036854775807) (h : TapeAt w t A n cap at_) (hA : BytesAt w B A n) (hB : B ≤ t) :
    Calls Tryd.prog 30 #[.pointer (some ⟨t, 0, none⟩), .int .i64 m] w fun e w' =>
      ∃ (r at' : Nat), e = .returned (.int .i64 r) ∧ (r : Int) < m ∧ at' ≤ 9223372036854775807 ∧ TapeAt w' t A n cap at' ∧ Ch (· = t) w w' ∧ w'.heap.size = w.heap.size := by
  by_cases hlt : at_ < n
  · obtain ⟨b, off, c, rfl, hb, hc0, hc1, hc⟩ := hA at_ hlt
    refine (next_one w t b off n cap at_ m c hm hm2 hn h hlt hc hc0 hc1 (by omega)).mono ?_
    rintro e w' ⟨rfl, k, rfl⟩
    have h1 := Int.emod_nonneg c (show m ≠ 0 by omega)
    have h2 := Int.emod_lt_of_pos c (show 0 < m by omega)
    refine ⟨(c % m).toNat, at_ + 1, ret_int (by omega), by omega, by omega, ?_, ((Ch.refl (· = t) w).setCell (p := ⟨t, 1, none⟩) (.inl rfl) _).drewN k, by simp [World.drewN, World.setCell]⟩
    unfold TapeAt at h ⊢
    simp [World.drewN, World.setCell, Array.getElem?_modify, h]
  · refine (next_end w t A n cap at_ m hn h (by omega) hat).mono ?_
    rintro e w' ⟨rfl, k, rfl⟩
    exact ⟨0, at_, rfl, by omega, hat, h, (Ch.refl _ _).drewN k, rfl⟩
end Go.Proofs.YtliiehfjcplieaaDoor
