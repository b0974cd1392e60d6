/- interleaveref03.Expr returns the text of an expression. -/
import Derived.Test.YtliiehfjcplieaaDoorFz
import Derived.Deep.RegionHeld3
namespace Go.Proofs.YtliiehfjcplieaaDoor
open Go.RowKit Go.Sort

set_option maxHeartbeats 400000 in
theorem sign_hi (op : Int) (w : World) (h1 : 4 ≤ op) (h2 : op ≤ 18)  :
    Calls Tryd.prog 25 #[.int .i64 op] w fun e w' => e = .returned (.tuple #[.string ⟨(sgn op).toArray⟩, .int .i64 (lvl op)]) ∧ Below w.heap.size w w' := by
  go_enter Tryd.func25, Tryd.ntmps25
  go_wp2
  go_quiet (fail)
  go_wp2
  go_ret2
  refine ⟨?_, below_drewN (((Below.refl _ _).alloc (Nat.le_refl _) _).alloc (by simp) _) _⟩
  rcases ops18 (by omega) h2 with rfl | rfl | rfl | rfl | rfl | rfl | rfl | rfl | rfl | rfl | rfl | rfl | rfl | rfl | rfl | rfl | rfl | rfl <;> first | rfl | omega
set_option maxHeartbeats 400000 in
theorem sign_lo (op : Int) (w : World) (h1 : 1 ≤ op) (h2 : op ≤ 3)  :
    Calls Tryd.prog 25 #[.int .i64 op] w fun e w' => e = .returned (.tuple #[.string ⟨(sgn op).toArray⟩, .int .i64 (lvl op)]) ∧ Below w.heap.size w w' := by
  go_enter Tryd.func25, Tryd.ntmps25
  go_wp2
  go_ret2
  refine ⟨?_, (((Below.refl _ _).alloc (Nat.le_refl _) _).alloc (by simp) _)⟩
  rcases ops18 (by omega) (show op ≤ 18 by omega) with rfl | rfl | rfl | rfl | rfl | rfl | rfl | rfl | rfl | rfl | rfl | rfl | rfl | rfl | rfl | rfl | rfl | rfl <;> first | rfl | omega
theorem sign_at (op : Int) (w : World) (h1 : 1 ≤ op) (h2 : op ≤ 18)  :
    Calls Tryd.prog 25 #[.int .i64 op] w fun e w' => e = .returned (.tuple #[.string ⟨(sgn op).toArray⟩, .int .i64 (lvl op)]) ∧ Below w.heap.size w w' := by
  by_cases h : op ≤ 3
  · exact sign_lo op w h1 h
  · exact sign_hi op w (by omega) h2

def RefExprAt (d : Nat) : Prop := ∀ (x : Ex) (v : Value) (w : World), ExAt w w.heap.size d x v → cnt d x → Env w w.heap.size → (txt d x).length ≤ 140737488355328 →
    Calls Tryd.prog 10 #[v] w fun e w' => e = .returned (.string ⟨(txt d x).toArray⟩) ∧ Below w.heap.size w w'
def RefPutAt (d : Nat) : Prop := ∀ (x : Ex) (v : Value) (level : Int) (w : World), ExAt w w.heap.size d x v → cnt d x → Env w w.heap.size → (putT (txt d x) x.op level).length ≤ 140737488355328 →
    Calls Tryd.prog 27 #[v, .int .i64 level] w fun e w' => e = .returned (.string ⟨(putT (txt d x) x.op level).toArray⟩) ∧ Below w.heap.size w w'

set_option maxHeartbeats 1000000 in
set_option maxRecDepth 100000 in
theorem refPut_of (d : Nat) (hx' : RefExprAt d) : RefPutAt d := by
  intro x v level w hx hcn hE hlen
  obtain ⟨ho1, ho2⟩ := cnt_op hcn
  cases d with
  | zero => exact hx.elim
  | succ d =>
  obtain ⟨A, cap, hv, hr, hc⟩ := id hx
  subst hv
  clear hc
  by_cases hl : lvl x.op < level
  · have hp : putT (txt (d + 1) x) x.op level = [40] ++ txt (d + 1) x ++ [41] := by unfold putT; rw [if_pos hl]
    have HP := Lib.hid hp
    rw [hp] at hlen
    simp only [List.length_append, List.length_cons, List.length_nil] at hlen
    clear hp
    go_enter Tryd.func27, Tryd.ntmps27
    go_wp2_with fail
    refine (sign_at _ _ ho1 ho2).mono ?_
    rintro e w1 ⟨rfl, hw1⟩
    obtain ⟨hz1, B1⟩ := box_after hw1
    have g1 : Below w.heap.size w w1 := below_box hw1
    obtain ⟨q0, q1, q2, q3⟩ := B1.cells
    clear hw1
    go_wp2_with fail
    refine (hx' x _ _ ((hx.below g1).more g1.size) hcn ((hE.below g1).more g1.size) (by omega)).mono ?_
    rintro e w2 ⟨rfl, hw2⟩
    go_wp2_with fail
    go_ret
    refine ⟨ret_str (str_ext ?_), gcall g1 (Nat.le_refl _) hw2⟩
    rw [HP.out]
    simp [ByteArray.data_append]
  · have hp : putT (txt (d + 1) x) x.op level = txt (d + 1) x := by unfold putT; rw [if_neg hl]
    rw [hp] at hlen ⊢
    clear hp
    go_enter Tryd.func27, Tryd.ntmps27
    go_wp2_with fail
    refine (sign_at _ _ ho1 ho2).mono ?_
    rintro e w1 ⟨rfl, hw1⟩
    obtain ⟨hz1, B1⟩ := box_after hw1
    have g1 : Below w.heap.size w w1 := below_box hw1
    obtain ⟨q0, q1, q2, q3⟩ := B1.cells
    clear hw1
    go_wp2_with fail
    refine (hx' x _ _ ((hx.below g1).more g1.size) hcn ((hE.below g1).more g1.size) hlen).mono ?_
    rintro e w2 ⟨rfl, hw2⟩
    go_wp2_with fail
    go_ret
    exact ⟨rfl, gcall g1 (Nat.le_refl _) hw2⟩









/-! the branches of Expr -/

set_option maxHeartbeats 2000000 in
set_option maxRecDepth 100000 in
theorem refExpr_num (d : Nat) (x : Ex) (v : Value) (w : World) (hx : ExAt w w.heap.size (d + 1) x v) (hE : Env w w.heap.size) (hlen : (txt (d + 1) x).length ≤ 140737488355328) (hop : x.op = 1) :
    Calls Tryd.prog 10 #[v] w fun e w' => e = .returned (.string ⟨(txt (d + 1) x).toArray⟩) ∧ Below w.heap.size w w' := by
  obtain ⟨A, cap, hv, hr, hc⟩ := id hx
  subst hv
  have ho1 : 1 ≤ x.op := by omega
  have ho2 : x.op ≤ 18 := by omega
  have ht : txt (d + 1) x = Lib.itoa x.n := by simp [txt, hop]
  rw [ht]
  have h1 : (x.op == 1) = true := by simp [hop]
  clear hc ht hop hlen
  go_enter Tryd.func10, Tryd.ntmps10
  go_wp2_with fail
  refine (sign_at _ _ ho1 ho2).mono ?_
  rintro e w1 ⟨rfl, hw1⟩
  obtain ⟨hz1, B1⟩ := box_after hw1
  have g1 : Below w.heap.size w w1 := below_box hw1
  obtain ⟨q0, q1, q2, q3⟩ := B1.cells
  clear hw1
  go_wp2_with fail
  refine (fmtInt _ hr.2.2.1 hr.2.2.2.1 _ (hE.below g1).pow).mono ?_
  rintro e w2 ⟨rfl, hw2⟩
  go_wp2_with fail
  go_ret
  exact ⟨rfl, gcall g1 (Nat.le_refl _) hw2⟩

set_option maxHeartbeats 2000000 in
set_option maxRecDepth 100000 in
theorem refExpr_name (d : Nat) (x : Ex) (v : Value) (w : World) (hx : ExAt w w.heap.size (d + 1) x v) (hE : Env w w.heap.size) (hlen : (txt (d + 1) x).length ≤ 140737488355328) (hop : x.op = 2) :
    Calls Tryd.prog 10 #[v] w fun e w' => e = .returned (.string ⟨(txt (d + 1) x).toArray⟩) ∧ Below w.heap.size w w' := by
  obtain ⟨A, cap, hv, hr, hc⟩ := id hx
  subst hv
  have ho1 : 1 ≤ x.op := by omega
  have ho2 : x.op ≤ 18 := by omega
  have ht : txt (d + 1) x = x.name.data.toList := by simp [txt, hop]
  rw [ht]
  have h1 : (x.op == 1) = false := by simp [hop]
  have h2 : (x.op == 2) = true := by simp [hop]
  clear hc ht hop hlen
  go_enter Tryd.func10, Tryd.ntmps10
  go_wp2_with fail
  refine (sign_at _ _ ho1 ho2).mono ?_
  rintro e w1 ⟨rfl, hw1⟩
  obtain ⟨hz1, B1⟩ := box_after hw1
  have g1 : Below w.heap.size w w1 := below_box hw1
  obtain ⟨q0, q1, q2, q3⟩ := B1.cells
  clear hw1
  go_wp2_with fail
  go_ret
  exact ⟨ret_str (str_ext rfl), g1⟩

set_option maxHeartbeats 2000000 in
set_option maxRecDepth 100000 in
theorem refExpr_index (d : Nat) (x : Ex) (v : Value) (w : World) (hx : ExAt w w.heap.size (d + 1) x v) (hE : Env w w.heap.size) (hlen : (txt (d + 1) x).length ≤ 140737488355328) (hop : x.op = 3) (hcn : cnt (d + 1) x) (hw : RefExprAt d) :
    Calls Tryd.prog 10 #[v] w fun e w' => e = .returned (.string ⟨(txt (d + 1) x).toArray⟩) ∧ Below w.heap.size w w' := by
  obtain ⟨A, cap, hv, hr, hc⟩ := id hx
  subst hv
  have ho1 : 1 ≤ x.op := by omega
  have ho2 : x.op ≤ 18 := by omega
  have hl0 : 0 < x.l.length := by have h := cnt_len hcn; rw [hop] at h; simp [arity] at h; omega
  have hll : ((x.l.length : Int) == 1) = true := by have h := cnt_len hcn; rw [hop] at h; simp [arity] at h; simp; omega
  have hc0 := cnt_child hcn 0 hl0
  have ht : txt (d + 1) x = x.name.data.toList ++ [91] ++ txt d (x.l.getD 0 Ex.nil) ++ [93] := by simp [txt, hop]
  have HT := Lib.hid ht
  have hlen0 : (txt d (x.l.getD 0 Ex.nil)).length ≤ 140737488355328 := by rw [ht] at hlen; simp only [List.length_append] at hlen; omega
  have h1 : (x.op == 1) = false := by simp [hop]
  have h2 : (x.op == 2) = false := by simp [hop]
  have h3 : (x.op == 3) = true := by simp [hop]
  obtain ⟨b0, off0, A0, c0, hA0, hbk0, m0, m1, m2, m3, m4⟩ := hc 0 hl0
  subst hA0
  simp only [Nat.zero_mul, Nat.add_zero] at m0 m1 m2 m3
  have hln : (0 : Int) < (x.l.length : Int) := by omega
  rw [ht] at hlen
  simp only [List.length_append, List.length_cons, List.length_nil, size_list] at hlen
  clear hc ht
  generalize x.l.getD 0 Ex.nil = y0 at *
  have u1 := fun W => run_string_add_sum (P := Tryd.prog) W x.name ⟨#[91]⟩ (by show x.name.size + 1 ≤ _; omega)
  have u2 := fun W => run_string_add_sum (P := Tryd.prog) W (x.name ++ ⟨#[91]⟩) ⟨(txt d y0).toArray⟩ (by simp only [ByteArray.size_append, size_mk]; show x.name.size + 1 + (txt d y0).length ≤ _; omega)
  have u3 := fun W => run_string_add_sum (P := Tryd.prog) W (x.name ++ ⟨#[91]⟩ ++ ⟨(txt d y0).toArray⟩) ⟨#[93]⟩ (by simp only [ByteArray.size_append, size_mk]; show x.name.size + 1 + (txt d y0).length + 1 ≤ _; omega)
  clear hop hlen
  go_enter Tryd.func10, Tryd.ntmps10
  go_wp2_with fail
  refine (sign_at _ _ ho1 ho2).mono ?_
  rintro e w1 ⟨rfl, hw1⟩
  obtain ⟨hz1, B1⟩ := box_after hw1
  have g1 : Below w.heap.size w w1 := below_box hw1
  obtain ⟨q0, q1, q2, q3⟩ := B1.cells
  clear hw1
  have k0 := (g1.cell (p := ⟨b0, off0, none⟩) hbk0).trans m0
  have k1 := (g1.cell (p := ⟨b0, off0 + 1, none⟩) hbk0).trans m1
  have k2 := (g1.cell (p := ⟨b0, off0 + 2, none⟩) hbk0).trans m2
  have k3 := (g1.cell (p := ⟨b0, off0 + 3, none⟩) hbk0).trans m3
  have g1d := g1.drew
  have z1 := g1d.size
  have B1d : Box w1.drew w.heap.size x (some ⟨b0, off0, none⟩) cap := B1
  go_wp2_with fail
  go_region_held3 (fun w' => w'.cell? ⟨w.heap.size, 2, none⟩ = some (.string x.name) ∧ w'.cell? ⟨w.heap.size, 3, none⟩ = some (.slice (some ⟨b0, off0, none⟩) x.l.length cap) ∧ w'.cell? ⟨b0, off0, none⟩ = some (.int .i64 y0.op) ∧ w'.cell? ⟨b0, off0 + 1, none⟩ = some (.int .i64 y0.n) ∧ w'.cell? ⟨b0, off0 + 2, none⟩ = some (.string y0.name) ∧ w'.cell? ⟨b0, off0 + 3, none⟩ = some (.slice A0 y0.l.length c0))
    (first | exact ⟨q2, q3, k0, k1, k2, k3⟩ | exact ⟨r2, r3, s0, s1, s2, s3⟩)
    (first
      | (go_at_call 10; refine (hw _ _ _ ((m4.below g1d).more z1) hc0 ((hE.below g1d).more z1) hlen0).mono ?_; rintro e w2 ⟨rfl, hw2⟩; have r2 := (hw2.cell (p := ⟨w.heap.size, 2, none⟩) hz1).trans q2; have r3 := (hw2.cell (p := ⟨w.heap.size, 3, none⟩) hz1).trans q3; have s0 := (hw2.cell (p := ⟨b0, off0, none⟩) (Nat.lt_of_lt_of_le hbk0 z1)).trans k0; have s1 := (hw2.cell (p := ⟨b0, off0 + 1, none⟩) (Nat.lt_of_lt_of_le hbk0 z1)).trans k1; have s2 := (hw2.cell (p := ⟨b0, off0 + 2, none⟩) (Nat.lt_of_lt_of_le hbk0 z1)).trans k2; have s3 := (hw2.cell (p := ⟨b0, off0 + 3, none⟩) (Nat.lt_of_lt_of_le hbk0 z1)).trans k3))
  go_wp2_with fail
  go_ret
  refine ⟨ret_str (str_ext ?_), gcall g1d (Nat.le_refl _) hw2⟩
  rw [HT.out]
  simp [ByteArray.data_append]

set_option maxHeartbeats 2000000 in
set_option maxRecDepth 100000 in
theorem refExpr_unary (d : Nat) (x : Ex) (v : Value) (w : World) (hx : ExAt w w.heap.size (d + 1) x v) (hE : Env w w.heap.size) (hlen : (txt (d + 1) x).length ≤ 140737488355328) (hop : x.op = 4 ∨ x.op = 5) (hcn : cnt (d + 1) x) (hw : RefPutAt d) :
    Calls Tryd.prog 10 #[v] w fun e w' => e = .returned (.string ⟨(txt (d + 1) x).toArray⟩) ∧ Below w.heap.size w w' := by
  obtain ⟨A, cap, hv, hr, hc⟩ := id hx
  subst hv
  have ho1 : 1 ≤ x.op := by omega
  have ho2 : x.op ≤ 18 := by omega
  have hll : ((x.l.length : Int) == 1) = true := by
    have h := cnt_len hcn
    rcases hop with h' | h' <;> rw [h'] at h <;> simp [arity] at h <;> simp <;> omega
  have hl0 : 0 < x.l.length := by simp at hll; omega
  have hc0 := cnt_child hcn 0 hl0
  have hlv : lvl x.op = 6 := by rcases hop with h' | h' <;> rw [h'] <;> rfl
  have ht : txt (d + 1) x = sgn x.op ++ putT (txt d (x.l.getD 0 Ex.nil)) (x.l.getD 0 Ex.nil).op  6 := by
    simp only [txt]
    rw [if_neg (by omega), if_neg (by omega), if_neg (by omega), if_pos hlv]
  have HT := Lib.hid ht
  have hlen0 : (putT (txt d (x.l.getD 0 Ex.nil)) (x.l.getD 0 Ex.nil).op  6).length ≤ 140737488355328 := by rw [ht] at hlen; simp only [List.length_append] at hlen; omega
  have h1 : (x.op == 1) = false := by simp; omega
  have h2 : (x.op == 2) = false := by simp; omega
  have h3 : (x.op == 3) = false := by simp; omega
  have h6 : (lvl x.op == 6) = true := by rw [hlv]; rfl
  obtain ⟨b0, off0, A0, c0, hA0, hbk0, m0, m1, m2, m3, m4⟩ := hc 0 hl0
  subst hA0
  simp only [Nat.zero_mul, Nat.add_zero] at m0 m1 m2 m3
  have hln : (0 : Int) < (x.l.length : Int) := by omega
  rw [ht] at hlen
  simp only [List.length_append] at hlen
  clear hc ht hop hlv
  generalize x.l.getD 0 Ex.nil = y0 at *
  go_enter Tryd.func10, Tryd.ntmps10
  go_wp2_with fail
  refine (sign_at _ _ ho1 ho2).mono ?_
  rintro e w1 ⟨rfl, hw1⟩
  obtain ⟨hz1, B1⟩ := box_after hw1
  have g1 : Below w.heap.size w w1 := below_box hw1
  obtain ⟨q0, q1, q2, q3⟩ := B1.cells
  clear hw1
  have k0 := (g1.cell (p := ⟨b0, off0, none⟩) hbk0).trans m0
  have k1 := (g1.cell (p := ⟨b0, off0 + 1, none⟩) hbk0).trans m1
  have k2 := (g1.cell (p := ⟨b0, off0 + 2, none⟩) hbk0).trans m2
  have k3 := (g1.cell (p := ⟨b0, off0 + 3, none⟩) hbk0).trans m3
  have z1 := g1.size
  go_wp2_with fail
  refine (hw _ _ 6 _ ((m4.below g1).more z1) hc0 ((hE.below g1).more z1) hlen0).mono ?_
  rintro e w2 ⟨rfl, hw2⟩
  go_wp2_with fail
  go_ret
  refine ⟨ret_str (str_ext ?_), gcall g1 (Nat.le_refl _) hw2⟩
  rw [HT.out]
  simp [ByteArray.data_append]

set_option maxHeartbeats 2000000 in
set_option maxRecDepth 100000 in
theorem refExpr_binary (d : Nat) (x : Ex) (v : Value) (w : World) (hx : ExAt w w.heap.size (d + 1) x v) (hE : Env w w.heap.size) (hlen : (txt (d + 1) x).length ≤ 140737488355328) (hop : 6 ≤ x.op) (hop2 : x.op ≤ 18) (hcn : cnt (d + 1) x) (hw : RefPutAt d) (left : Int) (hleft : left = leftOf x.op) (h33 : (lvl x.op == 3) = true ∧ left = 4 ∨ (lvl x.op == 3) = false ∧ left = lvl x.op) :
    Calls Tryd.prog 10 #[v] w fun e w' => e = .returned (.string ⟨(txt (d + 1) x).toArray⟩) ∧ Below w.heap.size w w' := by
  obtain ⟨A, cap, hv, hr, hc⟩ := id hx
  subst hv
  have ho1 : 1 ≤ x.op := by omega
  have ho2 : x.op ≤ 18 := by omega
  have hll : x.l.length = 2 := by
    have h := cnt_len hcn
    unfold arity at h
    rw [if_neg (by omega), if_neg (by omega), if_pos (by omega)] at h
    omega
  have hl0 : 0 < x.l.length := by omega
  have hl1 : 1 < x.l.length := by omega
  have hc0 := cnt_child hcn 0 hl0
  have hc1 := cnt_child hcn 1 hl1
  have hlv : 1 ≤ lvl x.op ∧ lvl x.op ≤ 5 := by
    rcases ops18 ho1 ho2 with h | h | h | h | h | h | h | h | h | h | h | h | h | h | h | h | h | h <;> rw [h] at hop ⊢ <;> first | decide | omega
  have ht : txt (d + 1) x = putT (txt d (x.l.getD 0 Ex.nil)) (x.l.getD 0 Ex.nil).op  left ++ [32] ++ sgn x.op ++ [32] ++ putT (txt d (x.l.getD 1 Ex.nil)) (x.l.getD 1 Ex.nil).op  (lvl x.op + 1) := by
    simp only [txt]
    rw [if_neg (by omega), if_neg (by omega), if_neg (by omega), if_neg (by omega), hleft]
  have HT := Lib.hid ht
  rw [ht] at hlen
  simp only [List.length_append, List.length_cons, List.length_nil] at hlen
  have h1 : (x.op == 1) = false := by simp; omega
  have h2 : (x.op == 2) = false := by simp; omega
  have h3 : (x.op == 3) = false := by simp; omega
  have h6 : (lvl x.op == 6) = false := by simp; omega
  have h2l : ((x.l.length : Int) == 2) = true := by simp; omega
  have h56 : decide (lvl x.op < 6) = true := by simp; omega
  have hwr : IntKind.i64.wrap (lvl x.op + 1) = lvl x.op + 1 := IntWalk.i64_in _ (by omega)
  have HW := Lib.hid hwr
  have hlt : (0 : Int) < (x.l.length : Int) := by omega
  have hlt1 : (1 : Int) < (x.l.length : Int) := by omega
  obtain ⟨hlv1, hlv2⟩ := hlv
  obtain ⟨b0, off0, A0, c0, hA0, hbk0, m0, m1, m2, m3, m4⟩ := hc 0 hl0
  obtain ⟨b1, off1, A1, c1, hA1, hbk1, n0, n1, n2, n3, n4⟩ := hc 1 hl1
  subst hA0
  injection hA1 with hA1
  injection hA1 with hA1 hA2
  subst hA1 hA2
  simp only [Nat.zero_mul, Nat.add_zero, Nat.one_mul] at m0 m1 m2 m3 n0 n1 n2 n3
  clear hc ht hop hop2 hll hleft hwr
  generalize x.l.getD 0 Ex.nil = y0 at *
  generalize x.l.getD 1 Ex.nil = y1 at *
  have u1 : Hid (∀ W, (Op.stringOp .add ⟨(putT (txt d y0) y0.op left).toArray⟩ ⟨#[32]⟩).run Tryd.prog W = .ok (.string (⟨(putT (txt d y0) y0.op left).toArray⟩ ++ ⟨#[32]⟩)) W) := fun W => run_string_add_sum (P := Tryd.prog) W _ _ (by simp only [ByteArray.size_append, size_mk]; show (putT (txt d y0) y0.op left).length + 1 ≤ _; omega)
  have u2 : Hid (∀ W, (Op.stringOp .add (⟨(putT (txt d y0) y0.op left).toArray⟩ ++ ⟨#[32]⟩) ⟨(sgn x.op).toArray⟩).run Tryd.prog W = .ok (.string (⟨(putT (txt d y0) y0.op left).toArray⟩ ++ ⟨#[32]⟩ ++ ⟨(sgn x.op).toArray⟩)) W) := fun W => run_string_add_sum (P := Tryd.prog) W _ _ (by simp only [ByteArray.size_append, size_mk]; show (putT (txt d y0) y0.op left).length + 1 + (sgn x.op).length ≤ _; omega)
  have u3 : Hid (∀ W, (Op.stringOp .add (⟨(putT (txt d y0) y0.op left).toArray⟩ ++ ⟨#[32]⟩ ++ ⟨(sgn x.op).toArray⟩) ⟨#[32]⟩).run Tryd.prog W = .ok (.string (⟨(putT (txt d y0) y0.op left).toArray⟩ ++ ⟨#[32]⟩ ++ ⟨(sgn x.op).toArray⟩ ++ ⟨#[32]⟩)) W) := fun W => run_string_add_sum (P := Tryd.prog) W _ _ (by simp only [ByteArray.size_append, size_mk]; show (putT (txt d y0) y0.op left).length + 1 + (sgn x.op).length + 1 ≤ _; omega)
  have u4 : Hid (∀ W, (Op.stringOp .add (⟨(putT (txt d y0) y0.op left).toArray⟩ ++ ⟨#[32]⟩ ++ ⟨(sgn x.op).toArray⟩ ++ ⟨#[32]⟩) ⟨(putT (txt d y1) y1.op (lvl x.op + 1)).toArray⟩).run Tryd.prog W = .ok (.string (⟨(putT (txt d y0) y0.op left).toArray⟩ ++ ⟨#[32]⟩ ++ ⟨(sgn x.op).toArray⟩ ++ ⟨#[32]⟩ ++ ⟨(putT (txt d y1) y1.op (lvl x.op + 1)).toArray⟩)) W) := fun W => run_string_add_sum (P := Tryd.prog) W _ _ (by simp only [ByteArray.size_append, size_mk]; show (putT (txt d y0) y0.op left).length + 1 + (sgn x.op).length + 1 + (putT (txt d y1) y1.op (lvl x.op + 1)).length ≤ _; omega)
  have hlen0 : (putT (txt d y0) y0.op left).length ≤ 140737488355328 := by omega
  have hlen1 : (putT (txt d y1) y1.op (lvl x.op + 1)).length ≤ 140737488355328 := by omega
  clear hlen
  rcases h33 with ⟨h33, rfl⟩ | ⟨h33, rfl⟩
  all_goals
    go_enter Tryd.func10, Tryd.ntmps10
    go_wp2_with fail
    refine (sign_at _ _ ho1 ho2).mono ?_
    rintro e w1 ⟨rfl, hw1⟩
    obtain ⟨hz1, B1⟩ := box_after hw1
    have g1 : Below w.heap.size w w1 := below_box hw1
    obtain ⟨q0, q1, q2, q3⟩ := B1.cells
    clear hw1
    have k0 := (g1.cell (p := ⟨b0, off0, none⟩) hbk0).trans m0
    have k1 := (g1.cell (p := ⟨b0, off0 + 1, none⟩) hbk0).trans m1
    have k2 := (g1.cell (p := ⟨b0, off0 + 2, none⟩) hbk0).trans m2
    have k3 := (g1.cell (p := ⟨b0, off0 + 3, none⟩) hbk0).trans m3
    have j0 := (g1.cell (p := ⟨b0, off0 + 4, none⟩) hbk0).trans n0
    have j1 := (g1.cell (p := ⟨b0, off0 + 4 + 1, none⟩) hbk0).trans n1
    have j2 := (g1.cell (p := ⟨b0, off0 + 4 + 2, none⟩) hbk0).trans n2
    have j3 := (g1.cell (p := ⟨b0, off0 + 4 + 3, none⟩) hbk0).trans n3
    have g1d := g1.drew
    have z1 := g1d.size
    have z1' := g1.size
    have hk1 : b0 < w1.heap.size := by omega
    go_wp2_with fail
    have v1 := u1.out
    have v2 := u2.out
    have v3 := u3.out
    have v4 := u4.out
    have hwr := HW.out
    go_region_held3 (fun w' => w'.cell? ⟨w.heap.size, 3, none⟩ = some (.slice (some ⟨b0, off0, none⟩) x.l.length cap) ∧ w'.cell? ⟨b0, off0, none⟩ = some (.int .i64 y0.op) ∧ w'.cell? ⟨b0, off0 + 1, none⟩ = some (.int .i64 y0.n) ∧ w'.cell? ⟨b0, off0 + 2, none⟩ = some (.string y0.name) ∧ w'.cell? ⟨b0, off0 + 3, none⟩ = some (.slice A0 y0.l.length c0) ∧ w'.cell? ⟨b0, off0 + 4, none⟩ = some (.int .i64 y1.op) ∧ w'.cell? ⟨b0, off0 + 4 + 1, none⟩ = some (.int .i64 y1.n) ∧ w'.cell? ⟨b0, off0 + 4 + 2, none⟩ = some (.string y1.name) ∧ w'.cell? ⟨b0, off0 + 4 + 3, none⟩ = some (.slice A1 y1.l.length c1))
      (first | exact ⟨q3, k0, k1, k2, k3, j0, j1, j2, j3⟩ | exact ⟨r3, s0, s1, s2, s3, p0, p1, p2, p3⟩ | exact ⟨rr3, ss0, ss1, ss2, ss3, pp0, pp1, pp2, pp3⟩)
      (first
        | (go_at_call_of 27 (Value.agg #[Value.int IntKind.i64 y0.op, Value.int IntKind.i64 y0.n, Value.string y0.name, Value.slice A0 y0.l.length c0]); refine (hw y0 _ _ _ ((m4.below g1d).more z1) hc0 ((hE.below g1d).more z1) hlen0).mono ?_; rintro e w2 ⟨rfl, hw2⟩; have hz2 := hw2.size; have hz2' : w1.heap.size ≤ w2.heap.size := hz2; have hk2 := Nat.lt_of_lt_of_le hk1 hz2'; have hz3 := Nat.lt_of_lt_of_le hz1 hz2'; have hzw := Nat.le_trans z1' hz2'; have r3 := (hw2.cell (p := ⟨w.heap.size, 3, none⟩) hz1).trans q3; have s0 := (hw2.cell (p := ⟨b0, off0, none⟩) hk1).trans k0; have s1 := (hw2.cell (p := ⟨b0, off0 + 1, none⟩) hk1).trans k1; have s2 := (hw2.cell (p := ⟨b0, off0 + 2, none⟩) hk1).trans k2; have s3 := (hw2.cell (p := ⟨b0, off0 + 3, none⟩) hk1).trans k3; have p0 := (hw2.cell (p := ⟨b0, off0 + 4, none⟩) hk1).trans j0; have p1 := (hw2.cell (p := ⟨b0, off0 + 4 + 1, none⟩) hk1).trans j1; have p2 := (hw2.cell (p := ⟨b0, off0 + 4 + 2, none⟩) hk1).trans j2; have p3 := (hw2.cell (p := ⟨b0, off0 + 4 + 3, none⟩) hk1).trans j3)
        | (go_at_call_of 27 (Value.agg #[Value.int IntKind.i64 y1.op, Value.int IntKind.i64 y1.n, Value.string y1.name, Value.slice A1 y1.l.length c1]); refine (hw y1 _ _ _ ((n4.below (gcall g1d (Nat.le_refl _) hw2)).more hzw) hc1 ((hE.below (gcall g1d (Nat.le_refl _) hw2)).more hzw) hlen1).mono ?_; rintro e w3 ⟨rfl, hw3⟩; have rr3 := (hw3.cell (p := ⟨w.heap.size, 3, none⟩) hz3).trans r3; have ss0 := (hw3.cell (p := ⟨b0, off0, none⟩) hk2).trans s0; have ss1 := (hw3.cell (p := ⟨b0, off0 + 1, none⟩) hk2).trans s1; have ss2 := (hw3.cell (p := ⟨b0, off0 + 2, none⟩) hk2).trans s2; have ss3 := (hw3.cell (p := ⟨b0, off0 + 3, none⟩) hk2).trans s3; have pp0 := (hw3.cell (p := ⟨b0, off0 + 4, none⟩) hk2).trans p0; have pp1 := (hw3.cell (p := ⟨b0, off0 + 4 + 1, none⟩) hk2).trans p1; have pp2 := (hw3.cell (p := ⟨b0, off0 + 4 + 2, none⟩) hk2).trans p2; have pp3 := (hw3.cell (p := ⟨b0, off0 + 4 + 3, none⟩) hk2).trans p3))
    go_wp2_with fail
    go_ret
    refine ⟨ret_str (str_ext ?_), gcall (gcall g1d (Nat.le_refl _) hw2) (Nat.le_refl _) hw3⟩
    rw [HT.out]
    simp [ByteArray.data_append]

theorem refExpr_all : ∀ d, RefExprAt d
  | 0 => fun _ _ _ hx => hx.elim
  | d + 1 => by
    have hw := refExpr_all d
    have hp := refPut_of d hw
    intro x v w hx hcn hE hlen
    obtain ⟨h1, h2⟩ := cnt_op hcn
    by_cases e1 : x.op = 1
    · exact refExpr_num d x v w hx hE hlen e1
    by_cases e2 : x.op = 2
    · exact refExpr_name d x v w hx hE hlen e2
    by_cases e3 : x.op = 3
    · exact refExpr_index d x v w hx hE hlen e3 hcn hw
    by_cases e4 : x.op = 4 ∨ x.op = 5
    · exact refExpr_unary d x v w hx hE hlen e4 hcn hp
    · refine refExpr_binary d x v w hx hE hlen (by omega) h2 hcn hp (leftOf x.op) rfl ?_
      unfold leftOf
      by_cases h : lvl x.op = 3
      · exact .inl ⟨by simp [h], if_pos h⟩
      · exact .inr ⟨by simp [h], if_neg h⟩
end Go.Proofs.YtliiehfjcplieaaDoor
