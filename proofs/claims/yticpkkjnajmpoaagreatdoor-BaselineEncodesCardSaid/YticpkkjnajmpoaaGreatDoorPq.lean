/- Walks: the law BaselineSettles. -/
import Derived.Test.YticpkkjnajmpoaaGreatDoorPp
import Derived.Test.YticpkkjnajmpoaaGreatDoorPf
set_option linter.all false
namespace Go.Proofs.YticpkkjnajmpoaaGreatDoor.KM
open Go
theorem okE_of {l : List Ent} (h : ∀ x ∈ l, okV x) : okE l := fun x hx => okV_len (h x hx)
theorem pre_ok (l : List Item) : ∀ x ∈ preE l 20, okV x := fun x hx => by
  obtain ⟨y, _, rfl⟩ := (preE_inv l 20).2.2 x hx
  exact item_okV y
theorem sl_ciad (cs : List (Int × Ent)) (i : Nat) (c : Int × Ent) (h : cs[i]? = some c) : iadV 5 (SL true 0 (cs.map crow)) (.int .i64 (i : Int)) = some (.imm (crow c) 0) := by
  rw [sl_iad, atI_nat, List.getElem?_map, h]
  rfl
theorem upd_res {n : Int} {b now : List Ent} (h1 : validB n b = true) (h2 : validB 1 now = true) (h3 : n < 1073741824) (h4 : b.length + now.length ≤ 64) : updRes n b now = (n + 1, updL b now, 0) := by
  have := updL_len b now
  unfold updRes
  rw [h1, h2, if_pos (show (true && true) = true from rfl), if_neg (by omega)]
theorem lawSettles_fn (z z' : Bool) (t t' : Nat) (l m : List Item) (n : Nat) (hn : n < 256) (hl : l.length ≤ 9223372036854775807) (hok : ∀ x ∈ l, x.ok) (hl' : m.length ≤ 9223372036854775807) (hok' : ∀ x ∈ m, x.ok) :
    Fn TT PT 13 [SL z t (l.map Item.row), SL z' t' (m.map Item.row), .int .u8 n] (.bool true) := by
  have hen := entries_fn z' t' m hl' hok'
  have hba := base_fn z t l n hn hl hok
  obtain ⟨a1, a2, -⟩ := preE_inv l 20
  obtain ⟨b1, b2, -⟩ := preE_inv m 20
  have a3 := pre_ok l
  have b3 := pre_ok m
  have v1 := pre_valid l n (by omega) (by omega)
  have v2 := pre_valid m 1 (by omega) (by omega)
  have hup := updateB_fn true true 0 0 n (preE l 20) (preE m 20) (okE_of a3) (okE_of b3)
  rw [upd_res v1 v2 (by omega) (by omega)] at hup
  unfold baseV at hup
  simp only at hup
  have u3 := updL_okV a2 b2 a3 b3
  have u1 := updL_len (preE l 20) (preE m 20)
  have v3 : validB ((n : Int) + 1) (updL (preE l 20) (preE m 20)) = true := valid_of (by omega) (by omega) (by omega) (updL_asc a2 b2) u3
  have hva := valid_fn true 0 ((n : Int) + 1) _ (okE_of u3)
  rw [v3] at hva
  have hcm := compareB_fn true true 0 0 ((n : Int) + 1) _ (preE m 20) (okE_of u3) (okE_of b3)
  have hcl : cmpL ((n : Int) + 1) (updL (preE l 20) (preE m 20)) (preE m 20) = (mergeE (updL (preE l 20) (preE m 20)) (preE m 20)).map chg := by
    unfold cmpL
    rw [v3, v2, if_pos (show (true && true) = true from rfl)]
  rw [hcl] at hcm
  have hcn := settle_count a2 b2 a3
  have hce : ∀ c ∈ (mergeE (updL (preE l 20) (preE m 20)) (preE m 20)).map chg, c.1 = 2 ∨ (c.1 = 4 ∧ 1 ≤ c.2.missed) := fun c hc => by
    obtain ⟨p, hp, rfl⟩ := List.mem_map.1 hc
    exact (settle_each a2 b2 a3 hp).imp (·.1) fun h => ⟨h.1, h.2.1⟩
  have hcs : ((mergeE (updL (preE l 20) (preE m 20)) (preE m 20)).map chg).length ≤ 100 := by
    have := merge_len (updL (preE l 20) (preE m 20)) (preE m 20)
    rw [List.length_map]
    omega
  generalize (mergeE (updL (preE l 20) (preE m 20)) (preE m 20)).map chg = cs at hcm hcn hce hcs
  generalize updL (preE l 20) (preE m 20) = B at hup hva hcm
  generalize preE l 20 = bl at hba hup
  generalize preE m 20 = now at hen hup hcm hcn b1
  refine Fn_go T13 rfl ?_
  simp only [go_sem, Nat.reduceEqDiff, reduceIte, Nat.reduceAdd, Nat.reduceMul, Nat.reduceLeDiff, Int.reduceLT, Int.reduceLE, Int.reduceToNat, Int.reduceAdd, Int.reduceNeg, Int.reduceEq]
  refine wx_fn hen (by simp only [go_sem]) ?_
  simp only [go_sem, Nat.reduceEqDiff, reduceIte, Nat.reduceAdd, Nat.reduceMul, Nat.reduceLeDiff, Int.reduceLT, Int.reduceLE, Int.reduceToNat, Int.reduceAdd, Int.reduceNeg, Int.reduceEq]
  refine wx_fn hba (by simp only [go_sem]) ?_
  simp only [go_sem, Nat.reduceEqDiff, reduceIte, Nat.reduceAdd, Nat.reduceMul, Nat.reduceLeDiff, Int.reduceLT, Int.reduceLE, Int.reduceToNat, Int.reduceAdd, Int.reduceNeg, Int.reduceEq]
  refine wx_fn hup (by simp only [go_sem]) ?_
  simp only [go_sem, Nat.reduceEqDiff, reduceIte, Nat.reduceAdd, Nat.reduceMul, Nat.reduceLeDiff, Int.reduceLT, Int.reduceLE, Int.reduceToNat, Int.reduceAdd, Int.reduceNeg, Int.reduceEq, bne_self_eq_false]
  refine wx_fn hva (by simp only [go_sem]) ?_
  simp only [go_sem, Nat.reduceEqDiff, reduceIte, Nat.reduceAdd, Nat.reduceMul, Nat.reduceLeDiff, Int.reduceLT, Int.reduceLE, Int.reduceToNat, Int.reduceAdd, Int.reduceNeg, Int.reduceEq]
  refine wx_fn hcm (by simp only [go_sem]) ?_
  simp only [go_sem, Nat.reduceEqDiff, reduceIte, Nat.reduceAdd, Nat.reduceMul, Nat.reduceLeDiff, Int.reduceLT, Int.reduceLE, Int.reduceToNat, Int.reduceAdd, Int.reduceNeg, Int.reduceEq, List.length_map]
  refine loop_w (α := Nat × St) (fun a => cs.length - a.1) (fun a => [(7, SL true 0 (now.map Ent.row)), (10, .int .i64 ((cs.take a.1).countP (fun c => c.1 == 2) : Nat)), (32, SL true 0 (cs.map crow)), (33, .int .i64 cs.length), (34, .int .i64 a.1)]) (fun a => a.2)
    (fun a => a.1 ≤ cs.length) ?_ (0, _) (by simp)
  rintro ⟨i, s⟩ hi ih
  simp only at hi ih
  refine w_rep (by delta lp13_0; exact rfl) ?_
  have hcnt : (cs.take i).countP (fun c => c.1 == 2) ≤ 100 := by
    have := List.countP_le_length (p := fun c : Int × Ent => c.1 == 2) (l := cs.take i)
    simp at this
    omega
  rcases Nat.lt_or_ge i cs.length with h | h
  · obtain ⟨c, hx, -, hm⟩ := at_some h
    have htk : cs.take (i + 1) = cs.take i ++ [c] := by rw [List.take_add_one, hx]; rfl
    rcases hce c hm with h2 | ⟨h4, h5⟩
    · have e2 : (c.1 == 2) = true := by rw [h2]; rfl
      have hcw : IntKind.i64.wrap (((cs.take i).countP (fun c => c.1 == 2) : Nat) + 1) = (((cs.take (i + 1)).countP (fun c => c.1 == 2) : Nat) : Int) := by
        rw [inc64 (by omega), htk, List.countP_append, List.countP_cons]
        simp [e2]
      simp only [go_sem, Nat.reduceEqDiff, reduceIte, Nat.reduceAdd, Nat.reduceMul, Nat.reduceLeDiff, Int.reduceLT, Int.reduceLE, Int.reduceToNat, Int.reduceAdd, Int.reduceNeg, Int.reduceEq, lt_t h, List.getElem?_map, hx, crow, e2, hcw, inc64 (show i < 9223372036854775807 by omega)]
      exact W_keep (ih (i + 1, _) (by simp; omega) (by simp; omega)) rfl
    · have e2 : (c.1 == 2) = false := by rw [h4]; rfl
      have e4 : (c.1 == 4) = true := by rw [h4]; rfl
      have hcw : (((cs.take i).countP (fun c => c.1 == 2) : Nat) : Int) = (((cs.take (i + 1)).countP (fun c => c.1 == 2) : Nat) : Int) := by
        rw [htk, List.countP_append, List.countP_cons]
        simp [e2]
      have h6 : decide (c.2.missed < 1) = false := by simp; omega
      simp only [go_sem, Nat.reduceEqDiff, reduceIte, Nat.reduceAdd, Nat.reduceMul, Nat.reduceLeDiff, Int.reduceLT, Int.reduceLE, Int.reduceToNat, Int.reduceAdd, Int.reduceNeg, Int.reduceEq, lt_t h, List.getElem?_map, hx, crow, e2, e4, h6, inc64 (show i < 9223372036854775807 by omega)]
      rw [hcw]
      exact W_keep (ih (i + 1, _) (by simp; omega) (by simp; omega)) rfl
  · have htk : cs.take i = cs := List.take_of_length_le h
    rw [htk, hcn]
    simp only [go_sem, Nat.reduceEqDiff, reduceIte, Nat.reduceAdd, Nat.reduceMul, Nat.reduceLeDiff, Int.reduceLT, Int.reduceLE, Int.reduceToNat, Int.reduceAdd, Int.reduceNeg, Int.reduceEq, lt_f h, List.length_map, beq_self_eq_true]
    refine wx_fn awake_fn (by simp only [go_sem]) ?_
    simp only [go_sem, Nat.reduceEqDiff, reduceIte, Nat.reduceAdd, Nat.reduceMul, Nat.reduceLeDiff, Int.reduceLT, Int.reduceLE, Int.reduceToNat, Int.reduceAdd, Int.reduceNeg, Int.reduceEq]
    exact fr_set rfl
end Go.Proofs.YticpkkjnajmpoaaGreatDoor.KM
