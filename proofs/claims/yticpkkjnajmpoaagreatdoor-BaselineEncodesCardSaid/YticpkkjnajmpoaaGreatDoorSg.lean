/- Walks: the law BaselineEncodes. -/
import Derived.Test.YticpkkjnajmpoaaGreatDoorSf
set_option linter.all false
namespace Go.Proofs.YticpkkjnajmpoaaGreatDoor.KM
open Go
theorem sameb_fn (z z' : Bool) (t t' : Nat) (l : List Int) (hl : l.length ≤ 9223372036854775807) : Fn TT PT 26 [SL z t (bI l), SL z' t' (bI l)] (.bool true) := by
  refine Fn_go T26 rfl ?_
  simp only [go_sem, Nat.reduceEqDiff, reduceIte, Nat.reduceAdd, Nat.reduceMul, Nat.reduceLeDiff, Int.reduceLT, Int.reduceLE, Int.reduceToNat, Int.reduceAdd, Int.reduceNeg, Int.reduceEq, bne_self_eq_false]
  refine loop_w (α := Nat) (fun a => l.length - a) (fun a => [(0, SL z t (bI l)), (1, SL z' t' (bI l)), (5, .int .i64 a)]) (fun _ => []) (fun a => a ≤ l.length) ?_ 0 (by simp)
  intro i hi ih
  refine w_rep (by delta lp26_0; exact rfl) ?_
  rcases Nat.lt_or_ge i l.length with h | h
  · obtain ⟨x, hx, -, -⟩ := at_some h
    simp only [go_sem, Nat.reduceEqDiff, reduceIte, Nat.reduceAdd, Nat.reduceMul, Nat.reduceLeDiff, Int.reduceLT, Int.reduceLE, Int.reduceToNat, Int.reduceAdd, Int.reduceNeg, Int.reduceEq, lt_t h, bI_n]
    refine w_drw (by kernel_rfl) ?_
    simp only [go_sem, Nat.reduceEqDiff, reduceIte, Nat.reduceAdd, Nat.reduceMul, Nat.reduceLeDiff, Int.reduceLT, Int.reduceLE, Int.reduceToNat, Int.reduceAdd, Int.reduceNeg, Int.reduceEq, bI_get hx, bne_self_eq_false, inc64 (show i < 9223372036854775807 by omega)]
    exact W_keep (ih (i + 1) (by omega) (by omega)) rfl
  · simp only [go_sem, Nat.reduceEqDiff, reduceIte, Nat.reduceAdd, Nat.reduceMul, Nat.reduceLeDiff, Int.reduceLT, Int.reduceLE, Int.reduceToNat, Int.reduceAdd, Int.reduceNeg, Int.reduceEq, lt_f h, bI_n]
    exact fr_set rfl
def encL (n : Int) (l : List Ent) : List Int := if validB n l = true then encI n l else []
def encE (n : Int) (l : List Ent) : Int := if validB n l = true then 0 else 1
theorem encV_eq (n : Int) (l : List Ent) : encV n l = .tup [SL true 0 (bI (encL n l)), .int .i64 (encE n l)] := by
  unfold encV encL encE
  cases validB n l <;> rfl
theorem encL_len (n : Int) (l : List Ent) : (encL n l).length ≤ 1000000 := by
  unfold encL
  split
  · rename_i h
    obtain ⟨b1, b2, b3, b4, b5⟩ := valid_parts h
    have := bodyI_len (n := n) b3 b1
    simp only [encI, sum4, List.length_append, List.length_cons, List.length_nil]
    omega
  · simp
theorem lawEncodes_fn (z z' : Bool) (t t' : Nat) (l : List Item) (n : Nat) (k : Int) (b : List Ent) (hn : n < 256) (hl : l.length ≤ 9223372036854775807) (hok : ∀ x ∈ l, x.ok) (hb : okE b) :
    Fn TT PT 8 [SL z t (l.map Item.row), .int .u8 n, .agg [.int .i64 k, SL z' t' (b.map Ent.row)]] (.bool true) := by
  have hba := base_fn z t l n hn hl hok
  have a3 := okE_of (pre_ok l)
  generalize preE l 20 = B at hba a3
  have e1 := encode_fn true 0 n B a3
  have e2 := rencode_fn true 0 n B a3
  have e3 := encode_fn z' t' k b hb
  have e4 := rencode_fn z' t' k b hb
  rw [encV_eq] at e1 e2 e3 e4
  have s1 := sameb_fn true true 0 0 (encL n B) (by have := encL_len n B; omega)
  have s2 := sameb_fn true true 0 0 (encL k b) (by have := encL_len k b; omega)
  refine Fn_go T8 rfl ?_
  cases h : decide ((60 : Int) < (b.length : Int))
  · simp only [go_sem, Nat.reduceEqDiff, reduceIte, Nat.reduceAdd, Nat.reduceMul, Nat.reduceLeDiff, Int.reduceLT, Int.reduceLE, Int.reduceToNat, Int.reduceAdd, Int.reduceNeg, Int.reduceEq, List.length_map, h]
    refine wx_fn hba (by simp only [go_sem]) ?_
    simp only [go_sem, Nat.reduceEqDiff, reduceIte, Nat.reduceAdd, Nat.reduceMul, Nat.reduceLeDiff, Int.reduceLT, Int.reduceLE, Int.reduceToNat, Int.reduceAdd, Int.reduceNeg, Int.reduceEq]
    refine wx_fn e1 (by simp only [go_sem]) ?_
    simp only [go_sem, Nat.reduceEqDiff, reduceIte, Nat.reduceAdd, Nat.reduceMul, Nat.reduceLeDiff, Int.reduceLT, Int.reduceLE, Int.reduceToNat, Int.reduceAdd, Int.reduceNeg, Int.reduceEq]
    refine wx_fn hba (by simp only [go_sem]) ?_
    simp only [go_sem, Nat.reduceEqDiff, reduceIte, Nat.reduceAdd, Nat.reduceMul, Nat.reduceLeDiff, Int.reduceLT, Int.reduceLE, Int.reduceToNat, Int.reduceAdd, Int.reduceNeg, Int.reduceEq]
    refine wx_fn e2 (by simp only [go_sem]) ?_
    simp only [go_sem, Nat.reduceEqDiff, reduceIte, Nat.reduceAdd, Nat.reduceMul, Nat.reduceLeDiff, Int.reduceLT, Int.reduceLE, Int.reduceToNat, Int.reduceAdd, Int.reduceNeg, Int.reduceEq]
    refine wx_fn e3 (by simp only [go_sem]) ?_
    simp only [go_sem, Nat.reduceEqDiff, reduceIte, Nat.reduceAdd, Nat.reduceMul, Nat.reduceLeDiff, Int.reduceLT, Int.reduceLE, Int.reduceToNat, Int.reduceAdd, Int.reduceNeg, Int.reduceEq]
    refine wx_fn e4 (by simp only [go_sem]) ?_
    simp only [go_sem, Nat.reduceEqDiff, reduceIte, Nat.reduceAdd, Nat.reduceMul, Nat.reduceLeDiff, Int.reduceLT, Int.reduceLE, Int.reduceToNat, Int.reduceAdd, Int.reduceNeg, Int.reduceEq, beq_self_eq_true]
    refine wx_fn s1 (by simp only [go_sem]) ?_
    simp only [go_sem, Nat.reduceEqDiff, reduceIte, Nat.reduceAdd, Nat.reduceMul, Nat.reduceLeDiff, Int.reduceLT, Int.reduceLE, Int.reduceToNat, Int.reduceAdd, Int.reduceNeg, Int.reduceEq]
    refine wx_fn s2 (by simp only [go_sem]) ?_
    simp only [go_sem, Nat.reduceEqDiff, reduceIte, Nat.reduceAdd, Nat.reduceMul, Nat.reduceLeDiff, Int.reduceLT, Int.reduceLE, Int.reduceToNat, Int.reduceAdd, Int.reduceNeg, Int.reduceEq]
    refine wx_fn awake_fn (by simp only [go_sem]) ?_
    simp only [go_sem, Nat.reduceEqDiff, reduceIte, Nat.reduceAdd, Nat.reduceMul, Nat.reduceLeDiff, Int.reduceLT, Int.reduceLE, Int.reduceToNat, Int.reduceAdd, Int.reduceNeg, Int.reduceEq]
    exact fr_set rfl
  · simp only [go_sem, Nat.reduceEqDiff, reduceIte, Nat.reduceAdd, Nat.reduceMul, Nat.reduceLeDiff, Int.reduceLT, Int.reduceLE, Int.reduceToNat, Int.reduceAdd, Int.reduceNeg, Int.reduceEq, List.length_map, h]
    refine wx_fn awake_fn (by simp only [go_sem]) ?_
    simp only [go_sem, Nat.reduceEqDiff, reduceIte, Nat.reduceAdd, Nat.reduceMul, Nat.reduceLeDiff, Int.reduceLT, Int.reduceLE, Int.reduceToNat, Int.reduceAdd, Int.reduceNeg, Int.reduceEq]
    exact fr_set rfl
end Go.Proofs.YticpkkjnajmpoaaGreatDoor.KM
