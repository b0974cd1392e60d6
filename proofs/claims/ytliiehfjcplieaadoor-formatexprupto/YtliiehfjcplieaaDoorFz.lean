/- writeOperand, writeExpr at every depth, and format.Expr. -/
import Derived.Test.YtliiehfjcplieaaDoorFy
namespace Go.Proofs.YtliiehfjcplieaaDoor
open Go.RowKit Go.Sort

theorem field_lvl (s : ByteArray) (n : Int) (w : World) : (Instr.field 107 (.agg #[.string s, .int .i64 n]) 1).run Tryd.prog w = .ok (.int .i64 n) w := by kernel_rfl

set_option maxHeartbeats 1000000 in
set_option maxRecDepth 100000 in
theorem writeOperand_of (d : Nat) (hx' : WriteExprAt d) : WriteOperandAt d := by
  intro x v level B b l w hx hcn hE hB hb hlen
  have hop := cnt_op hcn
  have ho1 := hop.1
  have ho2 := hop.2
  cases d with
  | zero => exact hx.elim
  | succ d =>
  obtain ⟨A, cap, hv, hr, hc⟩ := id hx
  subst hv
  have hbl := isBuilder_lt hb
  have hfd := fun W => field_lvl ⟨(sgn x.op).toArray⟩ (lvl x.op) W
  clear hc hop
  by_cases hl : lvl x.op < level
  · have hp : putT (txt (d + 1) x) x.op level = [40] ++ txt (d + 1) x ++ [41] := by unfold putT; rw [if_pos hl]
    have HP := Lib.hid hp
    rw [hp] at hlen
    simp only [List.length_append, List.length_cons, List.length_nil] at hlen
    clear hp
    go_enter Tryd.func54, Tryd.ntmps54
    go_wp2_with fail
    refine (operatorOf_at _ _ ho1 ho2 ((hE.alloc hB _).more (by simp; omega))).mono ?_
    rintro e w1 ⟨rfl, hw1⟩
    obtain ⟨hz1, B1⟩ := box_after hw1
    have g1 : Below w.heap.size w w1 := below_box hw1
    have f1 : Fr 5 B b w w1 := (Fr.refl _ _ _ _).call hB g1
    have hb1 := isBuilder_below hb g1
    obtain ⟨q0, q1, q2, q3⟩ := B1.cells
    clear hw1
    go_wp2_with fail
    refine (ws B b _ [40] _ rfl _ hb1 (by simp only [List.length_cons, List.length_nil]; omega) (f1.size hB)).mono ?_
    rintro e w2 ⟨rfl, hb2, t2⟩
    have f2 := f1.trans t2
    have B2 := B1.kept t2 (by omega)
    obtain ⟨q0, q1, q2, q3⟩ := B2.cells
    go_wp2_with fail
    refine (hx' x _ B b _ _ (hx.below f2.below) hcn (hE.below f2.below) (f2.size hB) hb2 (by simp only [List.length_append, List.length_cons, List.length_nil]; omega)).mono ?_
    rintro e w3 ⟨rfl, hb3, t3⟩
    have f3 := f2.trans t3
    go_wp2_with fail
    refine (ws B b _ [41] _ rfl _ hb3 (by simp only [List.length_append, List.length_cons, List.length_nil]; omega) (f3.size hB)).mono ?_
    rintro e w4 ⟨rfl, hb4, t4⟩
    go_wp2_with fail
    go_end0
    exact ⟨rfl, by rw [HP.out]; simpa only [List.append_assoc] using hb4, f3.trans t4⟩
  · have hp : putT (txt (d + 1) x) x.op level = txt (d + 1) x := by unfold putT; rw [if_neg hl]
    rw [hp] at hlen ⊢
    clear hp
    go_enter Tryd.func54, Tryd.ntmps54
    go_wp2_with fail
    refine (operatorOf_at _ _ ho1 ho2 ((hE.alloc hB _).more (by simp; omega))).mono ?_
    rintro e w1 ⟨rfl, hw1⟩
    obtain ⟨hz1, B1⟩ := box_after hw1
    have g1 : Below w.heap.size w w1 := below_box hw1
    have f1 : Fr 5 B b w w1 := (Fr.refl _ _ _ _).call hB g1
    have hb1 := isBuilder_below hb g1
    obtain ⟨q0, q1, q2, q3⟩ := B1.cells
    clear hw1
    go_wp2_with fail
    refine (hx' x _ B b _ _ (hx.below f1.below) hcn (hE.below f1.below) (f1.size hB) hb1 hlen).mono ?_
    rintro e w3 ⟨rfl, hb3, t3⟩
    go_wp2_with fail
    refine bodyPost_ret (results_none rfl _ _ _) rfl ?_
    exact ⟨rfl, hb3, f1.trans t3⟩

theorem writeExpr_all : ∀ d, WriteExprAt d
  | 0 => fun _ _ _ _ _ _ hx => hx.elim
  | d + 1 => by
    have hw := writeOperand_of d (writeExpr_all d)
    intro x v B b l w hx hcn hE hB hb hlen
    obtain ⟨h1, h2⟩ := cnt_op hcn
    by_cases e1 : x.op = 1
    · exact writeExpr_num d x v B b l w hx hE hB hb hlen e1
    by_cases e2 : x.op = 2
    · exact writeExpr_name d x v B b l w hx hE hB hb hlen e2
    by_cases e3 : x.op = 3
    · exact writeExpr_index d x v B b l w hx hE hB hb hlen e3 hcn hw
    by_cases e4 : x.op = 4 ∨ x.op = 5
    · exact writeExpr_unary d x v B b l w hx hE hB hb hlen e4 hcn hw
    · refine writeExpr_binary d x v B b l w hx hE hB hb hlen (by omega) h2 hcn hw (leftOf x.op) rfl ?_
      unfold leftOf
      by_cases h : lvl x.op = 3
      · exact .inl ⟨by simp [h], if_pos h⟩
      · exact .inr ⟨by simp [h], if_neg h⟩

set_option maxHeartbeats 400000 in
/-- format.Expr returns the text -/
theorem formatExpr_at (d : Nat) (x : Ex) (v : Value) (w : World) (hx : ExAt w w.heap.size d x v) (hcn : cnt d x) (hE : Env w w.heap.size) (hlen : (txt d x).length ≤ 140737488355328) :
    Calls Tryd.prog 9 #[v] w fun e w' => e = .returned (.string ⟨(txt d x).toArray⟩) ∧ Below w.heap.size w w' := by
  cases d with
  | zero => exact hx.elim
  | succ d =>
  obtain ⟨A, cap, hv, hr, hc⟩ := id hx
  subst hv
  clear hc
  go_enter Tryd.func9, Tryd.ntmps9
  go_wp2_with fail
  have hbf : Lib.IsBuilderF 62 5 w.heap.size (w.heap.size + 1) (Lib.byteCells []) ((w.alloc (.cells #[.int .i64 x.op, .int .i64 x.n, .string x.name, .slice A x.l.length cap] 25)).alloc (.cells #[.pointer none, .slice none 0 0] 62)) :=
    (isBuilder_fresh _ _ _)
  refine (writeExpr_all (d + 1) x _ w.heap.size (w.heap.size + 1) [] _ ((hx.alloc (Nat.le_refl _) _).alloc (by simp) _) hcn ((hE.alloc (Nat.le_refl _) _).alloc (by simp) _) (by simp; omega) hbf (by simpa using hlen)).mono ?_
  rintro e w1 ⟨rfl, hb1, f1⟩
  go_wp2_with fail
  refine (Tryd.Builder_String_any_k w.heap.size (w.heap.size + 1) (txt (d + 1) x) _ hb1 (f1.size (by simp; omega))).mono ?_
  rintro e w2 ⟨rfl, hb2, hw2, hk2⟩
  go_wp2_with fail
  go_ret
  exact ⟨rfl, (((Below.refl _ _).alloc (Nat.le_refl _) _).alloc (by simp) _).trans (f1.below.trans hw2)⟩
end Go.Proofs.YtliiehfjcplieaaDoor
