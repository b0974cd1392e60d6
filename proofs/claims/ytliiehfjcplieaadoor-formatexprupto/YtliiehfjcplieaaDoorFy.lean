/- writeExpr and writeOperand write the text of an expression. -/
import Derived.Test.YtliiehfjcplieaaDoorFx
import Derived.Deep.RegionHeld3
import Derived.IntWalk
namespace Go.Proofs.YtliiehfjcplieaaDoor
open Go.RowKit Go.Sort

/-- what a writer leaves -/
def WPost (B b : Nat) (l t : List UInt8) (w : World) (e : Ending) (w' : World) : Prop :=
  e = .returned (.tuple #[]) ∧ Lib.IsBuilderF 62 5 B b (Lib.byteCells (l ++ t)) w' ∧ Fr 5 B b w w'

/-- the contract of writeOperand at a depth -/
def WriteOperandAt (d : Nat) : Prop := ∀ (x : Ex) (v : Value) (level : Int) (B b : Nat) (l : List UInt8) (w : World), ExAt w B d x v → cnt d x → Env w B → B ≤ w.heap.size →
    Lib.IsBuilderF 62 5 B b (Lib.byteCells l) w → l.length + (putT (txt d x) x.op level).length ≤ 140737488355328 →
    Calls Tryd.prog 54 #[.pointer (some ⟨b, 0, none⟩), v, .int .i64 level] w (WPost B b l (putT (txt d x) x.op level) w)
def WriteExprAt (d : Nat) : Prop := ∀ (x : Ex) (v : Value) (B b : Nat) (l : List UInt8) (w : World), ExAt w B d x v → cnt d x → Env w B → B ≤ w.heap.size →
    Lib.IsBuilderF 62 5 B b (Lib.byteCells l) w → l.length + (txt d x).length ≤ 140737488355328 →
    Calls Tryd.prog 23 #[.pointer (some ⟨b, 0, none⟩), v] w (WPost B b l (txt d x) w)

theorem putT_1 (t : List UInt8) {op : Int} (h1 : 1 ≤ op) (h2 : op ≤ 18) : putT t op 1 = t := by
  unfold putT
  rw [if_neg]
  rcases ops18 h1 h2 with h | h | h | h | h | h | h | h | h | h | h | h | h | h | h | h | h | h <;> rw [h] <;> decide

set_option maxHeartbeats 2000000 in
set_option maxRecDepth 100000 in
/-- a number -/
theorem writeExpr_num (d : Nat) (x : Ex) (v : Value) (B b : Nat) (l : List UInt8) (w : World) (hx : ExAt w B (d + 1) x v) (hE : Env w B) (hB : B ≤ w.heap.size)
    (hb : Lib.IsBuilderF 62 5 B b (Lib.byteCells l) w) (hlen : l.length + (txt (d + 1) x).length ≤ 140737488355328) (hop : x.op = 1) :
    Calls Tryd.prog 23 #[.pointer (some ⟨b, 0, none⟩), v] w (WPost B b l (txt (d + 1) x) w) := by
  obtain ⟨A, cap, hv, hr, hc⟩ := id hx
  subst hv
  have hbl := isBuilder_lt hb
  have ho1 : 1 ≤ x.op := by omega
  have ho2 : x.op ≤ 18 := by omega
  have ht : txt (d + 1) x = Lib.itoa x.n := by simp [txt, hop]
  rw [ht] at hlen ⊢
  have h1 : (x.op == 1) = true := by simp [hop]
  clear hc ht hop
  go_enter Tryd.func23, Tryd.ntmps23
  go_wp2_with fail
  refine (operatorOf_at _ _ ho1 ho2 ((hE.alloc hB _).more (by simp; omega))).mono ?_
  rintro e w1 ⟨rfl, hw1⟩
  obtain ⟨hz1, B1⟩ := box_after hw1
  have g1 : Below w.heap.size w w1 := below_box hw1
  have f1 : Fr 5 B b w w1 := (Fr.refl _ _ _ _).call hB g1
  obtain ⟨q0, q1, q2, q3⟩ := B1.cells
  clear hw1
  go_wp2_with fail
  refine (fmtInt _ hr.2.2.1 hr.2.2.2.1 _ ((hE.below f1.below).alloc (by omega) _).pow).mono ?_
  rintro e w2 ⟨rfl, hw2⟩
  have f2 := (f1.alloc hB _).call hB hw2
  go_wp2_with fail
  refine (ws B b l (Lib.itoa x.n) _ rfl _ (isBuilder_below hb (gcall (g1.alloc (by omega) _) (Nat.le_refl _) hw2)) hlen (f2.size hB)).mono ?_
  rintro e w3 ⟨rfl, hb3, f3⟩
  go_wp2_with fail
  go_end0
  exact ⟨rfl, hb3, f2.trans f3⟩

set_option maxHeartbeats 2000000 in
set_option maxRecDepth 100000 in
/-- a name -/
theorem writeExpr_name (d : Nat) (x : Ex) (v : Value) (B b : Nat) (l : List UInt8) (w : World) (hx : ExAt w B (d + 1) x v) (hE : Env w B) (hB : B ≤ w.heap.size)
    (hb : Lib.IsBuilderF 62 5 B b (Lib.byteCells l) w) (hlen : l.length + (txt (d + 1) x).length ≤ 140737488355328) (hop : x.op = 2) :
    Calls Tryd.prog 23 #[.pointer (some ⟨b, 0, none⟩), v] w (WPost B b l (txt (d + 1) x) w) := by
  obtain ⟨A, cap, hv, hr, hc⟩ := id hx
  subst hv
  have hbl := isBuilder_lt hb
  have ho1 : 1 ≤ x.op := by omega
  have ho2 : x.op ≤ 18 := by omega
  have ht : txt (d + 1) x = x.name.data.toList := by simp [txt, hop]
  rw [ht] at hlen ⊢
  have h1 : (x.op == 1) = false := by simp [hop]
  have h3 : (x.op == 3) = false := by simp [hop]
  have h7 : (lvl x.op == 7) = true := by rw [hop]; rfl
  clear hc ht hop
  go_enter Tryd.func23, Tryd.ntmps23
  go_wp2_with fail
  refine (operatorOf_at _ _ ho1 ho2 ((hE.alloc hB _).more (by simp; omega))).mono ?_
  rintro e w1 ⟨rfl, hw1⟩
  obtain ⟨hz1, B1⟩ := box_after hw1
  have g1 : Below w.heap.size w w1 := below_box hw1
  have f1 : Fr 5 B b w w1 := (Fr.refl _ _ _ _).call hB g1
  obtain ⟨q0, q1, q2, q3⟩ := B1.cells
  clear hw1
  go_wp2_with fail
  refine (ws B b l x.name.data.toList _ rfl _ (isBuilder_below hb (g1.alloc (by omega) _)) hlen (by simp; omega)).mono ?_
  rintro e w3 ⟨rfl, hb3, f3⟩
  go_wp2_with fail
  go_end0
  exact ⟨rfl, hb3, (f1.alloc hB _).trans f3⟩

set_option maxHeartbeats 2000000 in
set_option maxRecDepth 100000 in
/-- an element -/
theorem writeExpr_index (d : Nat) (x : Ex) (v : Value) (B b : Nat) (l : List UInt8) (w : World) (hx : ExAt w B (d + 1) x v) (hE : Env w B) (hB : B ≤ w.heap.size)
    (hb : Lib.IsBuilderF 62 5 B b (Lib.byteCells l) w) (hlen : l.length + (txt (d + 1) x).length ≤ 140737488355328) (hop : x.op = 3) (hcn : cnt (d + 1) x) (hw : WriteOperandAt d) :
    Calls Tryd.prog 23 #[.pointer (some ⟨b, 0, none⟩), v] w (WPost B b l (txt (d + 1) x) w) := by
  obtain ⟨A, cap, hv, hr, hc⟩ := id hx
  subst hv
  have hbl := isBuilder_lt hb
  have ho1 : 1 ≤ x.op := by omega
  have ho2 : x.op ≤ 18 := by omega
  have hl0 : 0 < x.l.length := by have h := cnt_len hcn; rw [hop] at h; simp [arity] at h; omega
  have hc0 := cnt_child hcn 0 hl0
  have ht : txt (d + 1) x = x.name.data.toList ++ [91] ++ txt d (x.l.getD 0 Ex.nil) ++ [93] := by simp [txt, hop]
  have HP := Lib.hid (putT_1 (txt d (x.l.getD 0 Ex.nil)) (cnt_op hc0).1 (cnt_op hc0).2)
  have HT := Lib.hid ht
  rw [ht] at hlen
  simp only [List.length_append, List.length_cons, List.length_nil] at hlen
  have h1 : (x.op == 1) = false := by simp [hop]
  have h3 : (x.op == 3) = true := by simp [hop]
  clear hc ht hop
  go_enter Tryd.func23, Tryd.ntmps23
  go_wp2_with fail
  refine (operatorOf_at _ _ ho1 ho2 ((hE.alloc hB _).more (by simp; omega))).mono ?_
  rintro e w1 ⟨rfl, hw1⟩
  obtain ⟨hz1, B1⟩ := box_after hw1
  have g1 : Below w.heap.size w w1 := below_box hw1
  have f1 : Fr 5 B b w w1 := (Fr.refl _ _ _ _).call hB g1
  obtain ⟨q0, q1, q2, q3⟩ := B1.cells
  clear hw1
  go_wp2_with fail
  refine (ws B b l x.name.data.toList _ rfl _ (isBuilder_below hb (g1.alloc (by omega) _)) (by first | omega | (simp only [List.length_append, List.length_cons, List.length_nil]; omega)) (by simp; omega)).mono ?_
  rintro e w2 ⟨rfl, hb2, t2⟩
  have f2 := (f1.alloc hB _).trans t2
  have B2 := B1.kept (((Fr.refl _ _ _ _).alloc (by omega) _).trans t2) (by omega)
  obtain ⟨q0, q1, q2, q3⟩ := B2.cells
  go_wp2_with fail
  refine (ws B b _ [91] _ rfl _ hb2 (by first | omega | (simp only [List.length_append, List.length_cons, List.length_nil]; omega)) (f2.size hB)).mono ?_
  rintro e w3 ⟨rfl, hb3, t3⟩
  have f3 := f2.trans t3
  have B3 := B2.kept t3 (by omega)
  obtain ⟨q0, q1, q2, q3⟩ := B3.cells
  go_wp2_with fail
  obtain ⟨u4, hu4, hcall⟩ := operand_ex (hx.below f3.below) 0 0 rfl hl0 (f3.size hB)
  refine (hcall _ (Below.refl _ _)).mono ?_
  clear hcall
  rintro e w4 ⟨rfl, hw4⟩
  have f4 := f3.call hB hw4
  have hb4 := isBuilder_below hb3 hw4
  have hv4 := hu4.below (hw4.mono (f3.size hB))
  have t4 := (Fr.refl 5 B b _).call (f3.size hB) hw4
  have B4 := B3.kept t4 (by omega)
  obtain ⟨q0, q1, q2, q3⟩ := B4.cells
  go_wp2_with fail
  refine (hw _ u4 1 B b _ _ hv4 hc0 (hE.below f4.below) (f4.size hB) hb4 (by rw [HP.out]; first | omega | (simp only [List.length_append, List.length_cons, List.length_nil]; omega))).mono ?_
  rintro e w5 ⟨rfl, hb5, t5⟩
  rw [HP.out] at hb5
  have f5 := f4.trans t5
  go_wp2_with fail
  refine (ws B b _ [93] _ rfl _ hb5 (by first | omega | (simp only [List.length_append, List.length_cons, List.length_nil]; omega)) (f5.size hB)).mono ?_
  rintro e w6 ⟨rfl, hb6, t6⟩
  have f6 := f5.trans t6
  go_wp2_with fail
  go_end0
  exact ⟨rfl, by rw [HT.out]; simpa only [List.append_assoc] using hb6, f6⟩

set_option maxHeartbeats 2000000 in
set_option maxRecDepth 100000 in
/-- a sign and its operand -/
theorem writeExpr_unary (d : Nat) (x : Ex) (v : Value) (B b : Nat) (l : List UInt8) (w : World) (hx : ExAt w B (d + 1) x v) (hE : Env w B) (hB : B ≤ w.heap.size)
    (hb : Lib.IsBuilderF 62 5 B b (Lib.byteCells l) w) (hlen : l.length + (txt (d + 1) x).length ≤ 140737488355328) (hop : x.op = 4 ∨ x.op = 5) (hcn : cnt (d + 1) x) (hw : WriteOperandAt d) :
    Calls Tryd.prog 23 #[.pointer (some ⟨b, 0, none⟩), v] w (WPost B b l (txt (d + 1) x) w) := by
  obtain ⟨A, cap, hv, hr, hc⟩ := id hx
  subst hv
  have hbl := isBuilder_lt hb
  have ho1 : 1 ≤ x.op := by omega
  have ho2 : x.op ≤ 18 := by omega
  have hl0 : 0 < x.l.length := by
    have h := cnt_len hcn
    rcases hop with h' | h' <;> rw [h'] at h <;> simp [arity] at h <;> omega
  have hc0 := cnt_child hcn 0 hl0
  have hlv : lvl x.op = 6 := by rcases hop with h' | h' <;> rw [h'] <;> rfl
  have ht : txt (d + 1) x = sgn x.op ++ putT (txt d (x.l.getD 0 Ex.nil)) (x.l.getD 0 Ex.nil).op  6 := by
    simp only [txt]
    rw [if_neg (by omega), if_neg (by omega), if_neg (by omega), if_pos hlv]
  have HT := Lib.hid ht
  rw [ht] at hlen
  simp only [List.length_append, List.length_cons, List.length_nil] at hlen
  have h1 : (x.op == 1) = false := by simp; omega
  have h3 : (x.op == 3) = false := by simp; omega
  have h7 : (lvl x.op == 7) = false := by rw [hlv]; rfl
  have h6 : (lvl x.op == 6) = true := by rw [hlv]; rfl
  clear hc ht hop hlv
  go_enter Tryd.func23, Tryd.ntmps23
  go_wp2_with fail
  refine (operatorOf_at _ _ ho1 ho2 ((hE.alloc hB _).more (by simp; omega))).mono ?_
  rintro e w1 ⟨rfl, hw1⟩
  obtain ⟨hz1, B1⟩ := box_after hw1
  have g1 : Below w.heap.size w w1 := below_box hw1
  have f1 : Fr 5 B b w w1 := (Fr.refl _ _ _ _).call hB g1
  obtain ⟨q0, q1, q2, q3⟩ := B1.cells
  clear hw1
  go_wp2_with fail
  refine (ws B b l (sgn x.op) _ rfl _ (isBuilder_below hb (g1.alloc (by omega) _)) (by first | omega | (simp only [List.length_append, List.length_cons, List.length_nil]; omega)) (by simp; omega)).mono ?_
  rintro e w2 ⟨rfl, hb2, t2⟩
  have f2 := (f1.alloc hB _).trans t2
  have B2 := B1.kept (((Fr.refl _ _ _ _).alloc (by omega) _).trans t2) (by omega)
  obtain ⟨q0, q1, q2, q3⟩ := B2.cells
  go_wp2_with fail
  obtain ⟨u3, hu3, hcall⟩ := operand_ex (hx.below f2.below) 0 0 rfl hl0 (f2.size hB)
  refine (hcall _ (Below.refl _ _)).mono ?_
  clear hcall
  rintro e w3 ⟨rfl, hw3⟩
  have f3 := f2.call hB hw3
  have hb3 := isBuilder_below hb2 hw3
  have hv3 := hu3.below (hw3.mono (f2.size hB))
  have t3 := (Fr.refl 5 B b _).call (f2.size hB) hw3
  have B3 := B2.kept t3 (by omega)
  obtain ⟨q0, q1, q2, q3⟩ := B3.cells
  go_wp2_with fail
  refine (hw _ u3 6 B b _ _ hv3 hc0 (hE.below f3.below) (f3.size hB) hb3 (by first | omega | (simp only [List.length_append, List.length_cons, List.length_nil]; omega))).mono ?_
  rintro e w4 ⟨rfl, hb4, t4⟩
  have f4 := f3.trans t4
  go_wp2_with fail
  go_end0
  exact ⟨rfl, by rw [HT.out]; simpa only [List.append_assoc] using hb4, f4⟩

set_option maxHeartbeats 2000000 in
set_option maxRecDepth 100000 in
/-- two operands and a sign between -/
theorem writeExpr_binary (d : Nat) (x : Ex) (v : Value) (B b : Nat) (l : List UInt8) (w : World) (hx : ExAt w B (d + 1) x v) (hE : Env w B) (hB : B ≤ w.heap.size)
    (hb : Lib.IsBuilderF 62 5 B b (Lib.byteCells l) w) (hlen : l.length + (txt (d + 1) x).length ≤ 140737488355328) (hop : 6 ≤ x.op) (hop2 : x.op ≤ 18) (hcn : cnt (d + 1) x) (hw : WriteOperandAt d) (left : Int) (hleft : left = leftOf x.op) (h33 : (lvl x.op == 3) = true ∧ left = 4 ∨ (lvl x.op == 3) = false ∧ left = lvl x.op) :
    Calls Tryd.prog 23 #[.pointer (some ⟨b, 0, none⟩), v] w (WPost B b l (txt (d + 1) x) w) := by
  obtain ⟨A, cap, hv, hr, hc⟩ := id hx
  subst hv
  have hbl := isBuilder_lt hb
  have ho1 : 1 ≤ x.op := by omega
  have ho2 : x.op ≤ 18 := by omega
  have hll : x.l.length = 2 := by
    have h := cnt_len hcn
    unfold arity at h
    rw [if_neg (by omega), if_neg (by omega), if_pos (by omega)] at h
    omega
  have hl0 : 0 < x.l.length := by omega
  have hl1 : 1 < x.l.length := by omega
  have hc0 := cnt_child hcn 0 hl0
  have hc1 := cnt_child hcn 1 hl1
  have hlv : 1 ≤ lvl x.op ∧ lvl x.op ≤ 5 := by
    rcases ops18 ho1 ho2 with h | h | h | h | h | h | h | h | h | h | h | h | h | h | h | h | h | h <;> rw [h] at hop ⊢ <;> first | decide | omega
  have ht : txt (d + 1) x = putT (txt d (x.l.getD 0 Ex.nil)) (x.l.getD 0 Ex.nil).op  left ++ [32] ++ sgn x.op ++ [32] ++ putT (txt d (x.l.getD 1 Ex.nil)) (x.l.getD 1 Ex.nil).op  (lvl x.op + 1) := by
    simp only [txt]
    rw [if_neg (by omega), if_neg (by omega), if_neg (by omega), if_neg (by omega), hleft]
  have HT := Lib.hid ht
  rw [ht] at hlen
  simp only [List.length_append, List.length_cons, List.length_nil] at hlen
  have h1 : (x.op == 1) = false := by simp; omega
  have h3 : (x.op == 3) = false := by simp; omega
  have h7 : (lvl x.op == 7) = false := by simp; omega
  have h6 : (lvl x.op == 6) = false := by simp; omega
  obtain ⟨hlv1, hlv2⟩ := hlv
  clear hc ht hop hop2 hll
  obtain ⟨v1, hv1, hcall1⟩ := operand_ex hx 1 1 rfl hl1 hB
  have HC1 := Lib.hid hcall1
  clear hcall1
  have HL : (l ++ putT (txt d (x.l.getD 0 Ex.nil)) (x.l.getD 0 Ex.nil).op left ++ [32] ++ sgn x.op ++ [32]).length + (putT (txt d (x.l.getD 1 Ex.nil)) (x.l.getD 1 Ex.nil).op (lvl x.op + 1)).length ≤ 140737488355328 := by
    simp only [List.length_append, List.length_cons, List.length_nil]; omega
  rcases h33 with ⟨h33, rfl⟩ | ⟨h33, rfl⟩
  all_goals
    clear hleft
    go_enter Tryd.func23, Tryd.ntmps23
    go_wp2_with fail
    refine (operatorOf_at _ _ ho1 ho2 ((hE.alloc hB _).more (by simp; omega))).mono ?_
    rintro e w1 ⟨rfl, hw1⟩
    obtain ⟨hz1, B1⟩ := box_after hw1
    have g1 : Below w.heap.size w w1 := below_box hw1
    have f1 : Fr 5 B b w w1 := (Fr.refl _ _ _ _).call hB g1
    obtain ⟨q0, q1, q2, q3⟩ := B1.cells
    clear hw1
    go_wp2_with fail
    obtain ⟨u2, hu2, hcall⟩ := operand_ex ((hx.below f1.below).alloc (by omega) _) 0 0 rfl hl0 (by simp; omega)
    refine (hcall _ (Below.refl _ _)).mono ?_
    clear hcall
    rintro e w2 ⟨rfl, hw2⟩
    have f2 := (f1.alloc hB _).call hB hw2
    have hb2 := isBuilder_below hb (gcall (g1.alloc (by omega) _) (Nat.le_refl _) hw2)
    have hv2 := hu2.below (hw2.mono (by simp; omega))
    have B2 := B1.kept (((Fr.refl 5 B b _).alloc (by omega) _).call (by omega) hw2) (by omega)
    have O2 : OBox w2 w1.heap.size x.op := OBox.kept (heap_alloc_new w1 _) ((Fr.refl 5 B b _).call (by simp; omega) hw2) (by omega)
    obtain ⟨q0, q1, q2, q3⟩ := B2.cells
    obtain ⟨p0, p1⟩ := O2.cells
    go_wp2_with fail
    refine (hw _ u2 _ B b _ _ hv2 hc0 (hE.below f2.below) (f2.size hB) hb2 (by first | omega | (simp only [List.length_append, List.length_cons, List.length_nil]; omega))).mono ?_
    rintro e w3 ⟨rfl, hb3, t3⟩
    have f3 := f2.trans t3
    have B3 := B2.kept t3 (by omega)
    obtain ⟨q0, q1, q2, q3⟩ := B3.cells
    have O3 := O2.kept t3 (by omega)
    obtain ⟨p0, p1⟩ := O3.cells
    go_wp2_with fail
    refine (ws B b _ [32] _ rfl _ hb3 (by first | omega | (simp only [List.length_append, List.length_cons, List.length_nil]; omega)) (f3.size hB)).mono ?_
    rintro e w4 ⟨rfl, hb4, t4⟩
    have f4 := f3.trans t4
    have B4 := B3.kept t4 (by omega)
    obtain ⟨q0, q1, q2, q3⟩ := B4.cells
    have O4 := O3.kept t4 (by omega)
    obtain ⟨p0, p1⟩ := O4.cells
    go_wp2_with fail
    refine (ws B b _ (sgn x.op) _ rfl _ hb4 (by first | omega | (simp only [List.length_append, List.length_cons, List.length_nil]; omega)) (f4.size hB)).mono ?_
    rintro e w5 ⟨rfl, hb5, t5⟩
    have f5 := f4.trans t5
    have B5 := B4.kept t5 (by omega)
    obtain ⟨q0, q1, q2, q3⟩ := B5.cells
    have O5 := O4.kept t5 (by omega)
    obtain ⟨p0, p1⟩ := O5.cells
    go_wp2_with fail
    refine (ws B b _ [32] _ rfl _ hb5 (by first | omega | (simp only [List.length_append, List.length_cons, List.length_nil]; omega)) (f5.size hB)).mono ?_
    rintro e w6 ⟨rfl, hb6, t6⟩
    have f6 := f5.trans t6
    have B6 := B5.kept t6 (by omega)
    obtain ⟨q0, q1, q2, q3⟩ := B6.cells
    have O6 := O5.kept t6 (by omega)
    obtain ⟨p0, p1⟩ := O6.cells
    go_wp2_with fail
    have f6d := f6.drew
    have hwr : IntKind.i64.wrap (lvl x.op + 1) = lvl x.op + 1 := IntWalk.i64_in _ (by omega)
    have B6d : Box w6.drew w.heap.size x A cap := B6
    have O6d : OBox w6.drew w1.heap.size x.op := O6
    have hb6d : Lib.IsBuilderF 62 5 B b _ w6.drew := hb6
    go_region_held3 (fun w' => w'.cell? ⟨w.heap.size, 0, none⟩ = some (.int .i64 x.op) ∧ w'.cell? ⟨w.heap.size, 1, none⟩ = some (.int .i64 x.n) ∧ w'.cell? ⟨w.heap.size, 2, none⟩ = some (.string x.name) ∧ w'.cell? ⟨w.heap.size, 3, none⟩ = some (.slice A x.l.length cap) ∧ w'.cell? ⟨w1.heap.size, 1, none⟩ = some (.int .i64 (lvl x.op)))
      (first | exact ⟨q0, q1, q2, q3, p1⟩ | exact ⟨r0, r1, r2, r3, s1⟩ | exact ⟨x0, x1, x2, x3, y1⟩)
      (first
        | (go_at_call 55; refine (HC1.out _ f6d.below).mono ?_; rintro e w7 ⟨rfl, hw7⟩; have t7 := (Fr.refl 5 B b _).call (f6d.size hB) hw7; have f7 := f6d.trans t7; have B7 := B6d.kept t7 (by omega); have O7 := O6d.kept t7 (by omega); obtain ⟨r0, r1, r2, r3⟩ := B7.cells; obtain ⟨s0, s1⟩ := O7.cells)
        | (go_at_call 54; refine (hw _ v1 (lvl x.op + 1) B b _ _ (hv1.below f7.below) hc1 (hE.below f7.below) (f7.size hB) (isBuilder_below hb6d hw7) HL).mono ?_; rintro e w8 ⟨rfl, hb8, t8⟩; have f8 := f7.trans t8; have B8 := B7.kept t8 (by omega); have O8 := O7.kept t8 (by omega); obtain ⟨x0, x1, x2, x3⟩ := B8.cells; obtain ⟨y0, y1⟩ := O8.cells))
    go_wp2_with fail
    go_end0
    exact ⟨rfl, by rw [HT.out]; simpa only [List.append_assoc] using hb8, f8⟩
end Go.Proofs.YtliiehfjcplieaaDoor
