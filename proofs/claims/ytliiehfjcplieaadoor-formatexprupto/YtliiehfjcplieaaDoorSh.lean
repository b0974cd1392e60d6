/- interleaveref02: the shape of expressions. -/
import Derived.Test.YtliiehfjcplieaaDoorFx
import Derived.Test.YtliiehfjcplieaaDoorLex
import Derived.Lib.QuietBelow
import Derived.Deep.LoopGhost
namespace Go.Proofs.YtliiehfjcplieaaDoor
open Go.RowKit Go.Sort

set_option maxHeartbeats 400000 in
theorem operands_any (op : Int) (w : World) :
    Calls Tryd.prog 28 #[.int .i64 op] w fun e w' => e = .returned (.int .i64 (arity op)) ∧ w = w' := by
  unfold arity
  by_cases h1 : op = 1
  · subst h1
    go_enter Tryd.func28, Tryd.ntmps28
    go_wp2
    go_ret
    exact ⟨rfl, rfl⟩
  by_cases h2 : op = 2
  · subst h2
    go_enter Tryd.func28, Tryd.ntmps28
    go_wp2
    go_ret
    exact ⟨rfl, rfl⟩
  have e1 : (op == 1) = false := by simpa using h1
  have e2 : (op == 2) = false := by simpa using h2
  rw [if_neg (by omega)]
  by_cases h3 : op < 3
  · have e3 : decide (3 ≤ op) = false := by simp; omega
    have e6 : decide (6 ≤ op) = false := by simp; omega
    rw [if_neg (by omega), if_neg (by omega)]
    go_enter Tryd.func28, Tryd.ntmps28
    go_wp2
    go_ret
    exact ⟨rfl, rfl⟩
  have e3 : decide (3 ≤ op) = true := by simp; omega
  by_cases h5 : op ≤ 5
  · have e5 : decide (op ≤ 5) = true := by simp; omega
    rw [if_pos (by omega)]
    go_enter Tryd.func28, Tryd.ntmps28
    go_wp2
    go_ret
    exact ⟨rfl, rfl⟩
  have e5 : decide (op ≤ 5) = false := by simp; omega
  have e6 : decide (6 ≤ op) = true := by simp; omega
  rw [if_neg (by omega)]
  by_cases h18 : op ≤ 18
  · have e18 : decide (op ≤ 18) = true := by simp; omega
    rw [if_pos (by omega)]
    go_enter Tryd.func28, Tryd.ntmps28
    go_wp2
    go_ret
    exact ⟨rfl, rfl⟩
  · have e18 : decide (op ≤ 18) = false := by simp; omega
    rw [if_neg (by omega)]
    go_enter Tryd.func28, Tryd.ntmps28
    go_wp2
    go_ret
    exact ⟨rfl, rfl⟩

/-- an expression whose name, number and count of operands are as its operator wants -/
def headB (x : Ex) : Bool :=
  (arity x.op == (x.l.length : Int)) && ((((x.op == 2) || (x.op == 3)) == !(x.name.toList == [])) && ((!((x.op == 2) || (x.op == 3)) || nameB x.name) && (decide (0 ≤ x.n) && ((x.op == 1) || (x.n == 0)))))
def shB : Nat → Ex → Bool
  | 0, _ => false
  | d + 1, x => headB x && x.l.all (shB d)

def ShapedAt (d : Nat) : Prop := ∀ (x : Ex) (v : Value) (w : World), ExAt w w.heap.size d x v →
    Calls Tryd.prog 11 #[v] w fun e w' => e = .returned (.bool (shB d x)) ∧ Below w.heap.size w w'

theorem sh_no {d : Nat} {x : Ex} (h : headB x = false) : shB (d + 1) x = false := by simp [shB, h]
theorem sh_no_at {d : Nat} {x : Ex} {k : Nat} (hk : k < x.l.length) (h : shB d (x.l.getD k Ex.nil) = false) : shB (d + 1) x = false := by
  have e : x.l.getD k Ex.nil = x.l[k] := by simp [hk]
  rw [e] at h
  have : x.l.all (shB d) = false := by
    rw [List.all_eq_false]
    exact ⟨_, List.getElem_mem hk, by simp [h]⟩
  simp [shB, this]
theorem sh_yes {d : Nat} {x : Ex} (h : headB x = true) (ha : ∀ j, j < x.l.length → shB d (x.l.getD j Ex.nil) = true) : shB (d + 1) x = true := by
  have : x.l.all (shB d) = true := by
    rw [List.all_eq_true]
    intro y hy
    obtain ⟨i, hi, rfl⟩ := List.getElem_of_mem hy
    have := ha i hi
    simpa [hi] using this
  simp [shB, h, this]

def namedB (x : Ex) : Bool := (x.op == 2) || (x.op == 3)
theorem head_no1 {x : Ex} (h : (arity x.op != (x.l.length : Int)) = true) : headB x = false := by
  have h' : (arity x.op == (x.l.length : Int)) = false := by simpa using h
  simp [headB, h']
theorem head_no2 {x : Ex} {n : Bool} (hn : namedB x = n) (h : x.name.toList.isEmpty = n) : headB x = false := by
  unfold namedB at hn
  have e : (x.name.toList == []) = n := by rw [← h]; cases x.name.toList <;> rfl
  unfold headB
  rw [hn, e]
  cases n <;> simp
theorem head_no3 {x : Ex} (hn : namedB x = true) (h : nameB x.name = false) : headB x = false := by
  unfold namedB at hn
  unfold headB
  rw [hn, h]
  simp
theorem head_no4 {x : Ex} (h : decide (x.n < 0) = true) : headB x = false := by
  have h' : decide (0 ≤ x.n) = false := by simp at h ⊢; omega
  unfold headB
  rw [h']
  simp
theorem head_no5 {x : Ex} (h1 : (x.op != 1) = true) (h : (x.n != 0) = true) : headB x = false := by
  have h1' : (x.op == 1) = false := by simpa using h1
  have h' : (x.n == 0) = false := by simpa using h
  unfold headB
  rw [h1', h']
  simp
theorem head_yes {x : Ex} {n : Bool} (h1 : (arity x.op != (x.l.length : Int)) = false) (hn : namedB x = n) (h2 : x.name.toList.isEmpty = !n) (h3 : n = false ∨ nameB x.name = true) (h4 : decide (x.n < 0) = false) (h5 : (x.op != 1) = false ∨ (x.n != 0) = false) : headB x = true := by
  unfold namedB at hn
  have e1 : (arity x.op == (x.l.length : Int)) = true := by simpa using h1
  have e2 : (x.name.toList == []) = !n := by rw [← h2]; cases x.name.toList <;> rfl
  have e4 : decide (0 ≤ x.n) = true := by simp at h4 ⊢; omega
  have e5 : ((x.op == 1) || (x.n == 0)) = true := by rcases h5 with h | h <;> simp at h <;> simp [h]
  unfold headB
  rw [hn, e1, e2, e4, e5]
  rcases h3 with rfl | h3
  · simp
  · rw [h3]; cases n <;> simp

set_option maxHeartbeats 4000000 in
set_option maxRecDepth 100000 in
theorem shaped_op2 (d : Nat) (ih : ShapedAt d) (x : Ex) (v : Value) (w : World) (hx : ExAt w w.heap.size (d + 1) x v) (h2 : (x.op == 2) = true) (h1 : (x.op != 1) = true) (hn : namedB x = true) :
    Calls Tryd.prog 11 #[v] w fun e w' => e = .returned (.bool (shB (d + 1) x)) ∧ Below w.heap.size w w' := by
  obtain ⟨A, cap, hv, hr, hc⟩ := id hx
  subst hv
  have HC := Lib.hid hc
  have HNM := Lib.hid hn
  clear hc hn
  have hl := hr.2.2.2.2.1
  go_enter Tryd.func11, Tryd.ntmps11
  go_wp2_with fail
  have c0 := fun dq os => cell_regrown (w := w.alloc (.cells #[.int .i64 x.op, .int .i64 x.n, .string x.name, .slice A x.l.length cap] 25)) (a := ⟨w.heap.size, 0, none⟩) (v := .int .i64 x.op) (by simp [go_sem]) dq os
  have c1 := fun dq os => cell_regrown (w := w.alloc (.cells #[.int .i64 x.op, .int .i64 x.n, .string x.name, .slice A x.l.length cap] 25)) (a := ⟨w.heap.size, 1, none⟩) (v := .int .i64 x.n) (by simp [go_sem]) dq os
  have c2 := fun dq os => cell_regrown (w := w.alloc (.cells #[.int .i64 x.op, .int .i64 x.n, .string x.name, .slice A x.l.length cap] 25)) (a := ⟨w.heap.size, 2, none⟩) (v := .string x.name) (by simp [go_sem]) dq os
  have c3 := fun dq os => cell_regrown (w := w.alloc (.cells #[.int .i64 x.op, .int .i64 x.n, .string x.name, .slice A x.l.length cap] 25)) (a := ⟨w.heap.size, 3, none⟩) (v := .slice A x.l.length cap) (by simp [go_sem]) dq os
  refine wp_region_quiet_below (by kernel_rfl) (by kernel_rfl) ?_
  repeat (any_goals (go_big_quiet_step (first | (go_at_call 28; exact Calls.regrown_of ((operands_any _ _).mono fun _ _ h => ⟨h.1, h.2 ▸ Below.refl _ _⟩)) | (go_at_call 29; exact Calls.regrown_of (isName_any _ _)))))
  cases hb1 : (arity x.op != (x.l.length : Int))
  rotate_left
  · try simp only [Bool.not_false, Bool.not_true]
    repeat (any_goals (go_big_quiet_step (first | (go_at_call 28; exact Calls.regrown_of ((operands_any _ _).mono fun _ _ h => ⟨h.1, h.2 ▸ Below.refl _ _⟩)) | (go_at_call 29; exact Calls.regrown_of (isName_any _ _)))))
    refine wpQuiet_nil ?_
    intro _ hw'
    obtain ⟨⟨dq, osq⟩, hw''⟩ := hw'
    subst hw''
    go_wp2_with fail
    go_ret
    exact ⟨ret_bool (sh_no (head_no1 hb1)).symm, ((Below.refl _ _).alloc (Nat.le_refl _) _).trans ((below_regrown _ dq osq).mono (by simp))⟩
  try simp only [Bool.not_false, Bool.not_true]
  repeat (any_goals (go_big_quiet_step (first | (go_at_call 28; exact Calls.regrown_of ((operands_any _ _).mono fun _ _ h => ⟨h.1, h.2 ▸ Below.refl _ _⟩)) | (go_at_call 29; exact Calls.regrown_of (isName_any _ _)))))
  cases hb2 : (x.name.toList.isEmpty)
  rotate_left
  · try simp only [Bool.not_false, Bool.not_true]
    repeat (any_goals (go_big_quiet_step (first | (go_at_call 28; exact Calls.regrown_of ((operands_any _ _).mono fun _ _ h => ⟨h.1, h.2 ▸ Below.refl _ _⟩)) | (go_at_call 29; exact Calls.regrown_of (isName_any _ _)))))
    refine wpQuiet_nil ?_
    intro _ hw'
    obtain ⟨⟨dq, osq⟩, hw''⟩ := hw'
    subst hw''
    go_wp2_with fail
    go_ret
    exact ⟨ret_bool (sh_no (head_no2 HNM.out hb2)).symm, ((Below.refl _ _).alloc (Nat.le_refl _) _).trans ((below_regrown _ dq osq).mono (by simp))⟩
  try simp only [Bool.not_false, Bool.not_true]
  repeat (any_goals (go_big_quiet_step (first | (go_at_call 28; exact Calls.regrown_of ((operands_any _ _).mono fun _ _ h => ⟨h.1, h.2 ▸ Below.refl _ _⟩)) | (go_at_call 29; exact Calls.regrown_of (isName_any _ _)))))
  cases hb3 : (nameB x.name)
  · try simp only [Bool.not_false, Bool.not_true]
    repeat (any_goals (go_big_quiet_step (first | (go_at_call 28; exact Calls.regrown_of ((operands_any _ _).mono fun _ _ h => ⟨h.1, h.2 ▸ Below.refl _ _⟩)) | (go_at_call 29; exact Calls.regrown_of (isName_any _ _)))))
    refine wpQuiet_nil ?_
    intro _ hw'
    obtain ⟨⟨dq, osq⟩, hw''⟩ := hw'
    subst hw''
    go_wp2_with fail
    go_ret
    exact ⟨ret_bool (sh_no (head_no3 HNM.out hb3)).symm, ((Below.refl _ _).alloc (Nat.le_refl _) _).trans ((below_regrown _ dq osq).mono (by simp))⟩
  try simp only [Bool.not_false, Bool.not_true]
  repeat (any_goals (go_big_quiet_step (first | (go_at_call 28; exact Calls.regrown_of ((operands_any _ _).mono fun _ _ h => ⟨h.1, h.2 ▸ Below.refl _ _⟩)) | (go_at_call 29; exact Calls.regrown_of (isName_any _ _)))))
  cases hb4 : (decide (x.n < 0))
  rotate_left
  · try simp only [Bool.not_false, Bool.not_true]
    repeat (any_goals (go_big_quiet_step (first | (go_at_call 28; exact Calls.regrown_of ((operands_any _ _).mono fun _ _ h => ⟨h.1, h.2 ▸ Below.refl _ _⟩)) | (go_at_call 29; exact Calls.regrown_of (isName_any _ _)))))
    refine wpQuiet_nil ?_
    intro _ hw'
    obtain ⟨⟨dq, osq⟩, hw''⟩ := hw'
    subst hw''
    go_wp2_with fail
    go_ret
    exact ⟨ret_bool (sh_no (head_no4 hb4)).symm, ((Below.refl _ _).alloc (Nat.le_refl _) _).trans ((below_regrown _ dq osq).mono (by simp))⟩
  try simp only [Bool.not_false, Bool.not_true]
  repeat (any_goals (go_big_quiet_step (first | (go_at_call 28; exact Calls.regrown_of ((operands_any _ _).mono fun _ _ h => ⟨h.1, h.2 ▸ Below.refl _ _⟩)) | (go_at_call 29; exact Calls.regrown_of (isName_any _ _)))))
  cases hb5 : (x.n != 0)
  rotate_left
  · try simp only [Bool.not_false, Bool.not_true]
    repeat (any_goals (go_big_quiet_step (first | (go_at_call 28; exact Calls.regrown_of ((operands_any _ _).mono fun _ _ h => ⟨h.1, h.2 ▸ Below.refl _ _⟩)) | (go_at_call 29; exact Calls.regrown_of (isName_any _ _)))))
    refine wpQuiet_nil ?_
    intro _ hw'
    obtain ⟨⟨dq, osq⟩, hw''⟩ := hw'
    subst hw''
    go_wp2_with fail
    go_ret
    exact ⟨ret_bool (sh_no (head_no5 h1 hb5)).symm, ((Below.refl _ _).alloc (Nat.le_refl _) _).trans ((below_regrown _ dq osq).mono (by simp))⟩
  try simp only [Bool.not_false, Bool.not_true]
  repeat (any_goals (go_big_quiet_step (first | (go_at_call 28; exact Calls.regrown_of ((operands_any _ _).mono fun _ _ h => ⟨h.1, h.2 ▸ Below.refl _ _⟩)) | (go_at_call 29; exact Calls.regrown_of (isName_any _ _)))))
  have HH := Lib.hid (head_yes hb1 HNM.out hb2 (.inr hb3) hb4 (.inr hb5))
  refine wpQuiet_nil ?_
  intro _ hw'
  obtain ⟨⟨dq, osq⟩, hw''⟩ := hw'
  subst hw''
  have hw1 := below_regrown (w.alloc (.cells #[.int .i64 x.op, .int .i64 x.n, .string x.name, .slice A x.l.length cap] 25)) dq osq
  obtain ⟨hz1, B1⟩ := box_after hw1
  have g1 : Below w.heap.size w _ := below_box hw1
  obtain ⟨q0, q1, q2, q3⟩ := B1.cells
  clear c0 c1 c2 c3 hw1
  generalize grow (redrawn (w.alloc (.cells #[.int .i64 x.op, .int .i64 x.n, .string x.name, .slice A x.l.length cap] 25)) dq) osq = w1 at *
  go_wp2_with fail
  go_loopg [4] x.l.length (fun g i wr => ∃ k : Nat, k + g = x.l.length ∧ i = .int .i64 k ∧ Below w1.heap.size w1 wr ∧ ∀ j, j < k → shB d (x.l.getD j Ex.nil) = true)
  case atStart => exact ⟨0, by omega, rfl, Below.refl _ _, fun j hj => by omega⟩
  case round =>
    obtain ⟨k, hk, rfl, hw2, hno⟩ := hrel
    have HN := Lib.hid hno
    have HK := Lib.hid hk
    have hk' : k ≤ x.l.length := by omega
    clear hno hk
    have g2 := gcall g1 (Nat.le_refl _) hw2
    have z2 := hw2.size
    have r3 := (hw2.cell (p := ⟨w.heap.size, 3, none⟩) hz1).trans q3
    by_cases hlt : k < x.l.length
    · obtain ⟨b0, off0, A0, cc0, hA0, hbk0, m0, m1, m2, m3, m4⟩ := HC.out k hlt
      subst hA0
      have k0 := (g2.cell (p := ⟨b0, off0 + k * 4, none⟩) hbk0).trans m0
      have k1 := (g2.cell (p := ⟨b0, off0 + k * 4 + 1, none⟩) hbk0).trans m1
      have k2 := (g2.cell (p := ⟨b0, off0 + k * 4 + 2, none⟩) hbk0).trans m2
      have k3 := (g2.cell (p := ⟨b0, off0 + k * 4 + 3, none⟩) hbk0).trans m3
      have HS := Lib.hid (fun h => sh_no_at (d := d) hlt h)
      have m4' := (m4.below g2).more g2.size
      have HY : Hid (∀ j, j < k + 1 → j = k ∨ j < k) := fun j hj => by omega
      have HD := Lib.hid (rfl : x.l.getD k Ex.nil = x.l.getD k Ex.nil)
      obtain ⟨y, hy⟩ : ∃ y, y = x.l.getD k Ex.nil := ⟨_, rfl⟩
      rw [← hy] at m0 m1 m2 m3 m4 m4' k0 k1 k2 k3 HS
      have HYY := Lib.hid hy
      clear hy m0 m1 m2 m3 m4
      cases hs : shB d y
      · go_wp2_with fail
        refine (ih y _ _ m4').mono ?_
        rintro e w3 ⟨rfl, hw3⟩
        go_wp2_with fail
        go_ret
        exact ⟨ret_bool (HS.out hs).symm, gcall g2 (Nat.le_refl _) hw3⟩
      · go_wp2_with fail
        refine (ih y _ _ m4').mono ?_
        rintro e w3 ⟨rfl, hw3⟩
        go_wp2_with fail
        have hk := HK.out
        go_roundg (gk - 1)
        case rel =>
          refine ⟨k + 1, by omega, by go_num, gcall hw2 (Nat.le_refl _) hw3, fun j hj => ?_⟩
          rcases HY.out j hj with rfl | h
          · rw [← HYY.out]; exact hs
          · exact HN.out j h
        case measure => omega
    · go_wp2_with fail
      go_ret
      exact ⟨ret_bool (sh_yes HH.out fun j hj => HN.out j (by omega)).symm, g2⟩

set_option maxHeartbeats 4000000 in
set_option maxRecDepth 100000 in
theorem shaped_op3 (d : Nat) (ih : ShapedAt d) (x : Ex) (v : Value) (w : World) (hx : ExAt w w.heap.size (d + 1) x v) (h2 : (x.op == 2) = false) (h3 : (x.op == 3) = true) (h1 : (x.op != 1) = true) (hn : namedB x = true) :
    Calls Tryd.prog 11 #[v] w fun e w' => e = .returned (.bool (shB (d + 1) x)) ∧ Below w.heap.size w w' := by
  obtain ⟨A, cap, hv, hr, hc⟩ := id hx
  subst hv
  have HC := Lib.hid hc
  have HNM := Lib.hid hn
  clear hc hn
  have hl := hr.2.2.2.2.1
  go_enter Tryd.func11, Tryd.ntmps11
  go_wp2_with fail
  have c0 := fun dq os => cell_regrown (w := w.alloc (.cells #[.int .i64 x.op, .int .i64 x.n, .string x.name, .slice A x.l.length cap] 25)) (a := ⟨w.heap.size, 0, none⟩) (v := .int .i64 x.op) (by simp [go_sem]) dq os
  have c1 := fun dq os => cell_regrown (w := w.alloc (.cells #[.int .i64 x.op, .int .i64 x.n, .string x.name, .slice A x.l.length cap] 25)) (a := ⟨w.heap.size, 1, none⟩) (v := .int .i64 x.n) (by simp [go_sem]) dq os
  have c2 := fun dq os => cell_regrown (w := w.alloc (.cells #[.int .i64 x.op, .int .i64 x.n, .string x.name, .slice A x.l.length cap] 25)) (a := ⟨w.heap.size, 2, none⟩) (v := .string x.name) (by simp [go_sem]) dq os
  have c3 := fun dq os => cell_regrown (w := w.alloc (.cells #[.int .i64 x.op, .int .i64 x.n, .string x.name, .slice A x.l.length cap] 25)) (a := ⟨w.heap.size, 3, none⟩) (v := .slice A x.l.length cap) (by simp [go_sem]) dq os
  refine wp_region_quiet_below (by kernel_rfl) (by kernel_rfl) ?_
  repeat (any_goals (go_big_quiet_step (first | (go_at_call 28; exact Calls.regrown_of ((operands_any _ _).mono fun _ _ h => ⟨h.1, h.2 ▸ Below.refl _ _⟩)) | (go_at_call 29; exact Calls.regrown_of (isName_any _ _)))))
  cases hb1 : (arity x.op != (x.l.length : Int))
  rotate_left
  · try simp only [Bool.not_false, Bool.not_true]
    repeat (any_goals (go_big_quiet_step (first | (go_at_call 28; exact Calls.regrown_of ((operands_any _ _).mono fun _ _ h => ⟨h.1, h.2 ▸ Below.refl _ _⟩)) | (go_at_call 29; exact Calls.regrown_of (isName_any _ _)))))
    refine wpQuiet_nil ?_
    intro _ hw'
    obtain ⟨⟨dq, osq⟩, hw''⟩ := hw'
    subst hw''
    go_wp2_with fail
    go_ret
    exact ⟨ret_bool (sh_no (head_no1 hb1)).symm, ((Below.refl _ _).alloc (Nat.le_refl _) _).trans ((below_regrown _ dq osq).mono (by simp))⟩
  try simp only [Bool.not_false, Bool.not_true]
  repeat (any_goals (go_big_quiet_step (first | (go_at_call 28; exact Calls.regrown_of ((operands_any _ _).mono fun _ _ h => ⟨h.1, h.2 ▸ Below.refl _ _⟩)) | (go_at_call 29; exact Calls.regrown_of (isName_any _ _)))))
  cases hb2 : (x.name.toList.isEmpty)
  rotate_left
  · try simp only [Bool.not_false, Bool.not_true]
    repeat (any_goals (go_big_quiet_step (first | (go_at_call 28; exact Calls.regrown_of ((operands_any _ _).mono fun _ _ h => ⟨h.1, h.2 ▸ Below.refl _ _⟩)) | (go_at_call 29; exact Calls.regrown_of (isName_any _ _)))))
    refine wpQuiet_nil ?_
    intro _ hw'
    obtain ⟨⟨dq, osq⟩, hw''⟩ := hw'
    subst hw''
    go_wp2_with fail
    go_ret
    exact ⟨ret_bool (sh_no (head_no2 HNM.out hb2)).symm, ((Below.refl _ _).alloc (Nat.le_refl _) _).trans ((below_regrown _ dq osq).mono (by simp))⟩
  try simp only [Bool.not_false, Bool.not_true]
  repeat (any_goals (go_big_quiet_step (first | (go_at_call 28; exact Calls.regrown_of ((operands_any _ _).mono fun _ _ h => ⟨h.1, h.2 ▸ Below.refl _ _⟩)) | (go_at_call 29; exact Calls.regrown_of (isName_any _ _)))))
  cases hb3 : (nameB x.name)
  · try simp only [Bool.not_false, Bool.not_true]
    repeat (any_goals (go_big_quiet_step (first | (go_at_call 28; exact Calls.regrown_of ((operands_any _ _).mono fun _ _ h => ⟨h.1, h.2 ▸ Below.refl _ _⟩)) | (go_at_call 29; exact Calls.regrown_of (isName_any _ _)))))
    refine wpQuiet_nil ?_
    intro _ hw'
    obtain ⟨⟨dq, osq⟩, hw''⟩ := hw'
    subst hw''
    go_wp2_with fail
    go_ret
    exact ⟨ret_bool (sh_no (head_no3 HNM.out hb3)).symm, ((Below.refl _ _).alloc (Nat.le_refl _) _).trans ((below_regrown _ dq osq).mono (by simp))⟩
  try simp only [Bool.not_false, Bool.not_true]
  repeat (any_goals (go_big_quiet_step (first | (go_at_call 28; exact Calls.regrown_of ((operands_any _ _).mono fun _ _ h => ⟨h.1, h.2 ▸ Below.refl _ _⟩)) | (go_at_call 29; exact Calls.regrown_of (isName_any _ _)))))
  cases hb4 : (decide (x.n < 0))
  rotate_left
  · try simp only [Bool.not_false, Bool.not_true]
    repeat (any_goals (go_big_quiet_step (first | (go_at_call 28; exact Calls.regrown_of ((operands_any _ _).mono fun _ _ h => ⟨h.1, h.2 ▸ Below.refl _ _⟩)) | (go_at_call 29; exact Calls.regrown_of (isName_any _ _)))))
    refine wpQuiet_nil ?_
    intro _ hw'
    obtain ⟨⟨dq, osq⟩, hw''⟩ := hw'
    subst hw''
    go_wp2_with fail
    go_ret
    exact ⟨ret_bool (sh_no (head_no4 hb4)).symm, ((Below.refl _ _).alloc (Nat.le_refl _) _).trans ((below_regrown _ dq osq).mono (by simp))⟩
  try simp only [Bool.not_false, Bool.not_true]
  repeat (any_goals (go_big_quiet_step (first | (go_at_call 28; exact Calls.regrown_of ((operands_any _ _).mono fun _ _ h => ⟨h.1, h.2 ▸ Below.refl _ _⟩)) | (go_at_call 29; exact Calls.regrown_of (isName_any _ _)))))
  cases hb5 : (x.n != 0)
  rotate_left
  · try simp only [Bool.not_false, Bool.not_true]
    repeat (any_goals (go_big_quiet_step (first | (go_at_call 28; exact Calls.regrown_of ((operands_any _ _).mono fun _ _ h => ⟨h.1, h.2 ▸ Below.refl _ _⟩)) | (go_at_call 29; exact Calls.regrown_of (isName_any _ _)))))
    refine wpQuiet_nil ?_
    intro _ hw'
    obtain ⟨⟨dq, osq⟩, hw''⟩ := hw'
    subst hw''
    go_wp2_with fail
    go_ret
    exact ⟨ret_bool (sh_no (head_no5 h1 hb5)).symm, ((Below.refl _ _).alloc (Nat.le_refl _) _).trans ((below_regrown _ dq osq).mono (by simp))⟩
  try simp only [Bool.not_false, Bool.not_true]
  repeat (any_goals (go_big_quiet_step (first | (go_at_call 28; exact Calls.regrown_of ((operands_any _ _).mono fun _ _ h => ⟨h.1, h.2 ▸ Below.refl _ _⟩)) | (go_at_call 29; exact Calls.regrown_of (isName_any _ _)))))
  have HH := Lib.hid (head_yes hb1 HNM.out hb2 (.inr hb3) hb4 (.inr hb5))
  refine wpQuiet_nil ?_
  intro _ hw'
  obtain ⟨⟨dq, osq⟩, hw''⟩ := hw'
  subst hw''
  have hw1 := below_regrown (w.alloc (.cells #[.int .i64 x.op, .int .i64 x.n, .string x.name, .slice A x.l.length cap] 25)) dq osq
  obtain ⟨hz1, B1⟩ := box_after hw1
  have g1 : Below w.heap.size w _ := below_box hw1
  obtain ⟨q0, q1, q2, q3⟩ := B1.cells
  clear c0 c1 c2 c3 hw1
  generalize grow (redrawn (w.alloc (.cells #[.int .i64 x.op, .int .i64 x.n, .string x.name, .slice A x.l.length cap] 25)) dq) osq = w1 at *
  go_wp2_with fail
  go_loopg [4] x.l.length (fun g i wr => ∃ k : Nat, k + g = x.l.length ∧ i = .int .i64 k ∧ Below w1.heap.size w1 wr ∧ ∀ j, j < k → shB d (x.l.getD j Ex.nil) = true)
  case atStart => exact ⟨0, by omega, rfl, Below.refl _ _, fun j hj => by omega⟩
  case round =>
    obtain ⟨k, hk, rfl, hw2, hno⟩ := hrel
    have HN := Lib.hid hno
    have HK := Lib.hid hk
    have hk' : k ≤ x.l.length := by omega
    clear hno hk
    have g2 := gcall g1 (Nat.le_refl _) hw2
    have z2 := hw2.size
    have r3 := (hw2.cell (p := ⟨w.heap.size, 3, none⟩) hz1).trans q3
    by_cases hlt : k < x.l.length
    · obtain ⟨b0, off0, A0, cc0, hA0, hbk0, m0, m1, m2, m3, m4⟩ := HC.out k hlt
      subst hA0
      have k0 := (g2.cell (p := ⟨b0, off0 + k * 4, none⟩) hbk0).trans m0
      have k1 := (g2.cell (p := ⟨b0, off0 + k * 4 + 1, none⟩) hbk0).trans m1
      have k2 := (g2.cell (p := ⟨b0, off0 + k * 4 + 2, none⟩) hbk0).trans m2
      have k3 := (g2.cell (p := ⟨b0, off0 + k * 4 + 3, none⟩) hbk0).trans m3
      have HS := Lib.hid (fun h => sh_no_at (d := d) hlt h)
      have m4' := (m4.below g2).more g2.size
      have HY : Hid (∀ j, j < k + 1 → j = k ∨ j < k) := fun j hj => by omega
      have HD := Lib.hid (rfl : x.l.getD k Ex.nil = x.l.getD k Ex.nil)
      obtain ⟨y, hy⟩ : ∃ y, y = x.l.getD k Ex.nil := ⟨_, rfl⟩
      rw [← hy] at m0 m1 m2 m3 m4 m4' k0 k1 k2 k3 HS
      have HYY := Lib.hid hy
      clear hy m0 m1 m2 m3 m4
      cases hs : shB d y
      · go_wp2_with fail
        refine (ih y _ _ m4').mono ?_
        rintro e w3 ⟨rfl, hw3⟩
        go_wp2_with fail
        go_ret
        exact ⟨ret_bool (HS.out hs).symm, gcall g2 (Nat.le_refl _) hw3⟩
      · go_wp2_with fail
        refine (ih y _ _ m4').mono ?_
        rintro e w3 ⟨rfl, hw3⟩
        go_wp2_with fail
        have hk := HK.out
        go_roundg (gk - 1)
        case rel =>
          refine ⟨k + 1, by omega, by go_num, gcall hw2 (Nat.le_refl _) hw3, fun j hj => ?_⟩
          rcases HY.out j hj with rfl | h
          · rw [← HYY.out]; exact hs
          · exact HN.out j h
        case measure => omega
    · go_wp2_with fail
      go_ret
      exact ⟨ret_bool (sh_yes HH.out fun j hj => HN.out j (by omega)).symm, g2⟩

set_option maxHeartbeats 4000000 in
set_option maxRecDepth 100000 in
theorem shaped_op1 (d : Nat) (ih : ShapedAt d) (x : Ex) (v : Value) (w : World) (hx : ExAt w w.heap.size (d + 1) x v) (h2 : (x.op == 2) = false) (h3 : (x.op == 3) = false) (h1 : (x.op != 1) = false) (hn : namedB x = false) :
    Calls Tryd.prog 11 #[v] w fun e w' => e = .returned (.bool (shB (d + 1) x)) ∧ Below w.heap.size w w' := by
  obtain ⟨A, cap, hv, hr, hc⟩ := id hx
  subst hv
  have HC := Lib.hid hc
  have HNM := Lib.hid hn
  clear hc hn
  have hl := hr.2.2.2.2.1
  go_enter Tryd.func11, Tryd.ntmps11
  go_wp2_with fail
  have c0 := fun dq os => cell_regrown (w := w.alloc (.cells #[.int .i64 x.op, .int .i64 x.n, .string x.name, .slice A x.l.length cap] 25)) (a := ⟨w.heap.size, 0, none⟩) (v := .int .i64 x.op) (by simp [go_sem]) dq os
  have c1 := fun dq os => cell_regrown (w := w.alloc (.cells #[.int .i64 x.op, .int .i64 x.n, .string x.name, .slice A x.l.length cap] 25)) (a := ⟨w.heap.size, 1, none⟩) (v := .int .i64 x.n) (by simp [go_sem]) dq os
  have c2 := fun dq os => cell_regrown (w := w.alloc (.cells #[.int .i64 x.op, .int .i64 x.n, .string x.name, .slice A x.l.length cap] 25)) (a := ⟨w.heap.size, 2, none⟩) (v := .string x.name) (by simp [go_sem]) dq os
  have c3 := fun dq os => cell_regrown (w := w.alloc (.cells #[.int .i64 x.op, .int .i64 x.n, .string x.name, .slice A x.l.length cap] 25)) (a := ⟨w.heap.size, 3, none⟩) (v := .slice A x.l.length cap) (by simp [go_sem]) dq os
  refine wp_region_quiet_below (by kernel_rfl) (by kernel_rfl) ?_
  repeat (any_goals (go_big_quiet_step (first | (go_at_call 28; exact Calls.regrown_of ((operands_any _ _).mono fun _ _ h => ⟨h.1, h.2 ▸ Below.refl _ _⟩)) | (go_at_call 29; exact Calls.regrown_of (isName_any _ _)))))
  cases hb1 : (arity x.op != (x.l.length : Int))
  rotate_left
  · try simp only [Bool.not_false, Bool.not_true]
    repeat (any_goals (go_big_quiet_step (first | (go_at_call 28; exact Calls.regrown_of ((operands_any _ _).mono fun _ _ h => ⟨h.1, h.2 ▸ Below.refl _ _⟩)) | (go_at_call 29; exact Calls.regrown_of (isName_any _ _)))))
    refine wpQuiet_nil ?_
    intro _ hw'
    obtain ⟨⟨dq, osq⟩, hw''⟩ := hw'
    subst hw''
    go_wp2_with fail
    go_ret
    exact ⟨ret_bool (sh_no (head_no1 hb1)).symm, ((Below.refl _ _).alloc (Nat.le_refl _) _).trans ((below_regrown _ dq osq).mono (by simp))⟩
  try simp only [Bool.not_false, Bool.not_true]
  repeat (any_goals (go_big_quiet_step (first | (go_at_call 28; exact Calls.regrown_of ((operands_any _ _).mono fun _ _ h => ⟨h.1, h.2 ▸ Below.refl _ _⟩)) | (go_at_call 29; exact Calls.regrown_of (isName_any _ _)))))
  cases hb2 : (x.name.toList.isEmpty)
  · try simp only [Bool.not_false, Bool.not_true]
    repeat (any_goals (go_big_quiet_step (first | (go_at_call 28; exact Calls.regrown_of ((operands_any _ _).mono fun _ _ h => ⟨h.1, h.2 ▸ Below.refl _ _⟩)) | (go_at_call 29; exact Calls.regrown_of (isName_any _ _)))))
    refine wpQuiet_nil ?_
    intro _ hw'
    obtain ⟨⟨dq, osq⟩, hw''⟩ := hw'
    subst hw''
    go_wp2_with fail
    go_ret
    exact ⟨ret_bool (sh_no (head_no2 HNM.out hb2)).symm, ((Below.refl _ _).alloc (Nat.le_refl _) _).trans ((below_regrown _ dq osq).mono (by simp))⟩
  try simp only [Bool.not_false, Bool.not_true]
  repeat (any_goals (go_big_quiet_step (first | (go_at_call 28; exact Calls.regrown_of ((operands_any _ _).mono fun _ _ h => ⟨h.1, h.2 ▸ Below.refl _ _⟩)) | (go_at_call 29; exact Calls.regrown_of (isName_any _ _)))))
  cases hb4 : (decide (x.n < 0))
  rotate_left
  · try simp only [Bool.not_false, Bool.not_true]
    repeat (any_goals (go_big_quiet_step (first | (go_at_call 28; exact Calls.regrown_of ((operands_any _ _).mono fun _ _ h => ⟨h.1, h.2 ▸ Below.refl _ _⟩)) | (go_at_call 29; exact Calls.regrown_of (isName_any _ _)))))
    refine wpQuiet_nil ?_
    intro _ hw'
    obtain ⟨⟨dq, osq⟩, hw''⟩ := hw'
    subst hw''
    go_wp2_with fail
    go_ret
    exact ⟨ret_bool (sh_no (head_no4 hb4)).symm, ((Below.refl _ _).alloc (Nat.le_refl _) _).trans ((below_regrown _ dq osq).mono (by simp))⟩
  try simp only [Bool.not_false, Bool.not_true]
  repeat (any_goals (go_big_quiet_step (first | (go_at_call 28; exact Calls.regrown_of ((operands_any _ _).mono fun _ _ h => ⟨h.1, h.2 ▸ Below.refl _ _⟩)) | (go_at_call 29; exact Calls.regrown_of (isName_any _ _)))))
  have HH := Lib.hid (head_yes hb1 HNM.out hb2 (.inl rfl) hb4 (.inl h1))
  refine wpQuiet_nil ?_
  intro _ hw'
  obtain ⟨⟨dq, osq⟩, hw''⟩ := hw'
  subst hw''
  have hw1 := below_regrown (w.alloc (.cells #[.int .i64 x.op, .int .i64 x.n, .string x.name, .slice A x.l.length cap] 25)) dq osq
  obtain ⟨hz1, B1⟩ := box_after hw1
  have g1 : Below w.heap.size w _ := below_box hw1
  obtain ⟨q0, q1, q2, q3⟩ := B1.cells
  clear c0 c1 c2 c3 hw1
  generalize grow (redrawn (w.alloc (.cells #[.int .i64 x.op, .int .i64 x.n, .string x.name, .slice A x.l.length cap] 25)) dq) osq = w1 at *
  go_wp2_with fail
  go_loopg [4] x.l.length (fun g i wr => ∃ k : Nat, k + g = x.l.length ∧ i = .int .i64 k ∧ Below w1.heap.size w1 wr ∧ ∀ j, j < k → shB d (x.l.getD j Ex.nil) = true)
  case atStart => exact ⟨0, by omega, rfl, Below.refl _ _, fun j hj => by omega⟩
  case round =>
    obtain ⟨k, hk, rfl, hw2, hno⟩ := hrel
    have HN := Lib.hid hno
    have HK := Lib.hid hk
    have hk' : k ≤ x.l.length := by omega
    clear hno hk
    have g2 := gcall g1 (Nat.le_refl _) hw2
    have z2 := hw2.size
    have r3 := (hw2.cell (p := ⟨w.heap.size, 3, none⟩) hz1).trans q3
    by_cases hlt : k < x.l.length
    · obtain ⟨b0, off0, A0, cc0, hA0, hbk0, m0, m1, m2, m3, m4⟩ := HC.out k hlt
      subst hA0
      have k0 := (g2.cell (p := ⟨b0, off0 + k * 4, none⟩) hbk0).trans m0
      have k1 := (g2.cell (p := ⟨b0, off0 + k * 4 + 1, none⟩) hbk0).trans m1
      have k2 := (g2.cell (p := ⟨b0, off0 + k * 4 + 2, none⟩) hbk0).trans m2
      have k3 := (g2.cell (p := ⟨b0, off0 + k * 4 + 3, none⟩) hbk0).trans m3
      have HS := Lib.hid (fun h => sh_no_at (d := d) hlt h)
      have m4' := (m4.below g2).more g2.size
      have HY : Hid (∀ j, j < k + 1 → j = k ∨ j < k) := fun j hj => by omega
      have HD := Lib.hid (rfl : x.l.getD k Ex.nil = x.l.getD k Ex.nil)
      obtain ⟨y, hy⟩ : ∃ y, y = x.l.getD k Ex.nil := ⟨_, rfl⟩
      rw [← hy] at m0 m1 m2 m3 m4 m4' k0 k1 k2 k3 HS
      have HYY := Lib.hid hy
      clear hy m0 m1 m2 m3 m4
      cases hs : shB d y
      · go_wp2_with fail
        refine (ih y _ _ m4').mono ?_
        rintro e w3 ⟨rfl, hw3⟩
        go_wp2_with fail
        go_ret
        exact ⟨ret_bool (HS.out hs).symm, gcall g2 (Nat.le_refl _) hw3⟩
      · go_wp2_with fail
        refine (ih y _ _ m4').mono ?_
        rintro e w3 ⟨rfl, hw3⟩
        go_wp2_with fail
        have hk := HK.out
        go_roundg (gk - 1)
        case rel =>
          refine ⟨k + 1, by omega, by go_num, gcall hw2 (Nat.le_refl _) hw3, fun j hj => ?_⟩
          rcases HY.out j hj with rfl | h
          · rw [← HYY.out]; exact hs
          · exact HN.out j h
        case measure => omega
    · go_wp2_with fail
      go_ret
      exact ⟨ret_bool (sh_yes HH.out fun j hj => HN.out j (by omega)).symm, g2⟩

set_option maxHeartbeats 4000000 in
set_option maxRecDepth 100000 in
theorem shaped_op4 (d : Nat) (ih : ShapedAt d) (x : Ex) (v : Value) (w : World) (hx : ExAt w w.heap.size (d + 1) x v) (h2 : (x.op == 2) = false) (h3 : (x.op == 3) = false) (h1 : (x.op != 1) = true) (hn : namedB x = false) :
    Calls Tryd.prog 11 #[v] w fun e w' => e = .returned (.bool (shB (d + 1) x)) ∧ Below w.heap.size w w' := by
  obtain ⟨A, cap, hv, hr, hc⟩ := id hx
  subst hv
  have HC := Lib.hid hc
  have HNM := Lib.hid hn
  clear hc hn
  have hl := hr.2.2.2.2.1
  go_enter Tryd.func11, Tryd.ntmps11
  go_wp2_with fail
  have c0 := fun dq os => cell_regrown (w := w.alloc (.cells #[.int .i64 x.op, .int .i64 x.n, .string x.name, .slice A x.l.length cap] 25)) (a := ⟨w.heap.size, 0, none⟩) (v := .int .i64 x.op) (by simp [go_sem]) dq os
  have c1 := fun dq os => cell_regrown (w := w.alloc (.cells #[.int .i64 x.op, .int .i64 x.n, .string x.name, .slice A x.l.length cap] 25)) (a := ⟨w.heap.size, 1, none⟩) (v := .int .i64 x.n) (by simp [go_sem]) dq os
  have c2 := fun dq os => cell_regrown (w := w.alloc (.cells #[.int .i64 x.op, .int .i64 x.n, .string x.name, .slice A x.l.length cap] 25)) (a := ⟨w.heap.size, 2, none⟩) (v := .string x.name) (by simp [go_sem]) dq os
  have c3 := fun dq os => cell_regrown (w := w.alloc (.cells #[.int .i64 x.op, .int .i64 x.n, .string x.name, .slice A x.l.length cap] 25)) (a := ⟨w.heap.size, 3, none⟩) (v := .slice A x.l.length cap) (by simp [go_sem]) dq os
  refine wp_region_quiet_below (by kernel_rfl) (by kernel_rfl) ?_
  repeat (any_goals (go_big_quiet_step (first | (go_at_call 28; exact Calls.regrown_of ((operands_any _ _).mono fun _ _ h => ⟨h.1, h.2 ▸ Below.refl _ _⟩)) | (go_at_call 29; exact Calls.regrown_of (isName_any _ _)))))
  cases hb1 : (arity x.op != (x.l.length : Int))
  rotate_left
  · try simp only [Bool.not_false, Bool.not_true]
    repeat (any_goals (go_big_quiet_step (first | (go_at_call 28; exact Calls.regrown_of ((operands_any _ _).mono fun _ _ h => ⟨h.1, h.2 ▸ Below.refl _ _⟩)) | (go_at_call 29; exact Calls.regrown_of (isName_any _ _)))))
    refine wpQuiet_nil ?_
    intro _ hw'
    obtain ⟨⟨dq, osq⟩, hw''⟩ := hw'
    subst hw''
    go_wp2_with fail
    go_ret
    exact ⟨ret_bool (sh_no (head_no1 hb1)).symm, ((Below.refl _ _).alloc (Nat.le_refl _) _).trans ((below_regrown _ dq osq).mono (by simp))⟩
  try simp only [Bool.not_false, Bool.not_true]
  repeat (any_goals (go_big_quiet_step (first | (go_at_call 28; exact Calls.regrown_of ((operands_any _ _).mono fun _ _ h => ⟨h.1, h.2 ▸ Below.refl _ _⟩)) | (go_at_call 29; exact Calls.regrown_of (isName_any _ _)))))
  cases hb2 : (x.name.toList.isEmpty)
  · try simp only [Bool.not_false, Bool.not_true]
    repeat (any_goals (go_big_quiet_step (first | (go_at_call 28; exact Calls.regrown_of ((operands_any _ _).mono fun _ _ h => ⟨h.1, h.2 ▸ Below.refl _ _⟩)) | (go_at_call 29; exact Calls.regrown_of (isName_any _ _)))))
    refine wpQuiet_nil ?_
    intro _ hw'
    obtain ⟨⟨dq, osq⟩, hw''⟩ := hw'
    subst hw''
    go_wp2_with fail
    go_ret
    exact ⟨ret_bool (sh_no (head_no2 HNM.out hb2)).symm, ((Below.refl _ _).alloc (Nat.le_refl _) _).trans ((below_regrown _ dq osq).mono (by simp))⟩
  try simp only [Bool.not_false, Bool.not_true]
  repeat (any_goals (go_big_quiet_step (first | (go_at_call 28; exact Calls.regrown_of ((operands_any _ _).mono fun _ _ h => ⟨h.1, h.2 ▸ Below.refl _ _⟩)) | (go_at_call 29; exact Calls.regrown_of (isName_any _ _)))))
  cases hb4 : (decide (x.n < 0))
  rotate_left
  · try simp only [Bool.not_false, Bool.not_true]
    repeat (any_goals (go_big_quiet_step (first | (go_at_call 28; exact Calls.regrown_of ((operands_any _ _).mono fun _ _ h => ⟨h.1, h.2 ▸ Below.refl _ _⟩)) | (go_at_call 29; exact Calls.regrown_of (isName_any _ _)))))
    refine wpQuiet_nil ?_
    intro _ hw'
    obtain ⟨⟨dq, osq⟩, hw''⟩ := hw'
    subst hw''
    go_wp2_with fail
    go_ret
    exact ⟨ret_bool (sh_no (head_no4 hb4)).symm, ((Below.refl _ _).alloc (Nat.le_refl _) _).trans ((below_regrown _ dq osq).mono (by simp))⟩
  try simp only [Bool.not_false, Bool.not_true]
  repeat (any_goals (go_big_quiet_step (first | (go_at_call 28; exact Calls.regrown_of ((operands_any _ _).mono fun _ _ h => ⟨h.1, h.2 ▸ Below.refl _ _⟩)) | (go_at_call 29; exact Calls.regrown_of (isName_any _ _)))))
  cases hb5 : (x.n != 0)
  rotate_left
  · try simp only [Bool.not_false, Bool.not_true]
    repeat (any_goals (go_big_quiet_step (first | (go_at_call 28; exact Calls.regrown_of ((operands_any _ _).mono fun _ _ h => ⟨h.1, h.2 ▸ Below.refl _ _⟩)) | (go_at_call 29; exact Calls.regrown_of (isName_any _ _)))))
    refine wpQuiet_nil ?_
    intro _ hw'
    obtain ⟨⟨dq, osq⟩, hw''⟩ := hw'
    subst hw''
    go_wp2_with fail
    go_ret
    exact ⟨ret_bool (sh_no (head_no5 h1 hb5)).symm, ((Below.refl _ _).alloc (Nat.le_refl _) _).trans ((below_regrown _ dq osq).mono (by simp))⟩
  try simp only [Bool.not_false, Bool.not_true]
  repeat (any_goals (go_big_quiet_step (first | (go_at_call 28; exact Calls.regrown_of ((operands_any _ _).mono fun _ _ h => ⟨h.1, h.2 ▸ Below.refl _ _⟩)) | (go_at_call 29; exact Calls.regrown_of (isName_any _ _)))))
  have HH := Lib.hid (head_yes hb1 HNM.out hb2 (.inl rfl) hb4 (.inr hb5))
  refine wpQuiet_nil ?_
  intro _ hw'
  obtain ⟨⟨dq, osq⟩, hw''⟩ := hw'
  subst hw''
  have hw1 := below_regrown (w.alloc (.cells #[.int .i64 x.op, .int .i64 x.n, .string x.name, .slice A x.l.length cap] 25)) dq osq
  obtain ⟨hz1, B1⟩ := box_after hw1
  have g1 : Below w.heap.size w _ := below_box hw1
  obtain ⟨q0, q1, q2, q3⟩ := B1.cells
  clear c0 c1 c2 c3 hw1
  generalize grow (redrawn (w.alloc (.cells #[.int .i64 x.op, .int .i64 x.n, .string x.name, .slice A x.l.length cap] 25)) dq) osq = w1 at *
  go_wp2_with fail
  go_loopg [4] x.l.length (fun g i wr => ∃ k : Nat, k + g = x.l.length ∧ i = .int .i64 k ∧ Below w1.heap.size w1 wr ∧ ∀ j, j < k → shB d (x.l.getD j Ex.nil) = true)
  case atStart => exact ⟨0, by omega, rfl, Below.refl _ _, fun j hj => by omega⟩
  case round =>
    obtain ⟨k, hk, rfl, hw2, hno⟩ := hrel
    have HN := Lib.hid hno
    have HK := Lib.hid hk
    have hk' : k ≤ x.l.length := by omega
    clear hno hk
    have g2 := gcall g1 (Nat.le_refl _) hw2
    have z2 := hw2.size
    have r3 := (hw2.cell (p := ⟨w.heap.size, 3, none⟩) hz1).trans q3
    by_cases hlt : k < x.l.length
    · obtain ⟨b0, off0, A0, cc0, hA0, hbk0, m0, m1, m2, m3, m4⟩ := HC.out k hlt
      subst hA0
      have k0 := (g2.cell (p := ⟨b0, off0 + k * 4, none⟩) hbk0).trans m0
      have k1 := (g2.cell (p := ⟨b0, off0 + k * 4 + 1, none⟩) hbk0).trans m1
      have k2 := (g2.cell (p := ⟨b0, off0 + k * 4 + 2, none⟩) hbk0).trans m2
      have k3 := (g2.cell (p := ⟨b0, off0 + k * 4 + 3, none⟩) hbk0).trans m3
      have HS := Lib.hid (fun h => sh_no_at (d := d) hlt h)
      have m4' := (m4.below g2).more g2.size
      have HY : Hid (∀ j, j < k + 1 → j = k ∨ j < k) := fun j hj => by omega
      have HD := Lib.hid (rfl : x.l.getD k Ex.nil = x.l.getD k Ex.nil)
      obtain ⟨y, hy⟩ : ∃ y, y = x.l.getD k Ex.nil := ⟨_, rfl⟩
      rw [← hy] at m0 m1 m2 m3 m4 m4' k0 k1 k2 k3 HS
      have HYY := Lib.hid hy
      clear hy m0 m1 m2 m3 m4
      cases hs : shB d y
      · go_wp2_with fail
        refine (ih y _ _ m4').mono ?_
        rintro e w3 ⟨rfl, hw3⟩
        go_wp2_with fail
        go_ret
        exact ⟨ret_bool (HS.out hs).symm, gcall g2 (Nat.le_refl _) hw3⟩
      · go_wp2_with fail
        refine (ih y _ _ m4').mono ?_
        rintro e w3 ⟨rfl, hw3⟩
        go_wp2_with fail
        have hk := HK.out
        go_roundg (gk - 1)
        case rel =>
          refine ⟨k + 1, by omega, by go_num, gcall hw2 (Nat.le_refl _) hw3, fun j hj => ?_⟩
          rcases HY.out j hj with rfl | h
          · rw [← HYY.out]; exact hs
          · exact HN.out j h
        case measure => omega
    · go_wp2_with fail
      go_ret
      exact ⟨ret_bool (sh_yes HH.out fun j hj => HN.out j (by omega)).symm, g2⟩

theorem shaped_all : ∀ d, ShapedAt d
  | 0 => fun _ _ _ hx => hx.elim
  | d + 1 => by
    have ih := shaped_all d
    intro x v w hx
    cases h1 : (x.op != 1)
    · have e : x.op = 1 := by simpa using h1
      exact shaped_op1 d ih x v w hx (by simp [e]) (by simp [e]) h1 (by simp [namedB, e])
    · cases h2 : (x.op == 2)
      · cases h3 : (x.op == 3)
        · exact shaped_op4 d ih x v w hx h2 h3 h1 (by simp only [namedB, h2, h3]; rfl)
        · exact shaped_op3 d ih x v w hx h2 h3 h1 (by simp only [namedB, h2, h3]; rfl)
      · exact shaped_op2 d ih x v w hx h2 h1 (by simp only [namedB, h2]; rfl)
end Go.Proofs.YtliiehfjcplieaaDoor
