/- Walks: the law RoundTrips. -/
import Derived.Test.YtikkmcchhddfoaaGreatDoorDj
import Derived.Test.YtikkmcchhddfoaaGreatDoorZh
import Derived.Test.YtikkmcchhddfoaaGreatDoorYb
set_option linter.all false
namespace Go.Proofs.YtikkmcchhddfoaaGreatDoor.KM
open Go
theorem decR_enc {n : Int} {b : List Ent} (h : validB n b = true) (ho : ∀ e ∈ b, e.own = e) : decR (encI n b) = ((n, b), 0) := by
  have hl : (encI n b).length = (bodyI n b).length + 4 := by unfold encI; rw [List.length_append]; rfl
  have h4 : 4 ≤ (bodyI n b).length := by unfold bodyI; simp only [List.length_append, List.length_cons, List.length_nil]; omega
  have e1 : (encI n b).take ((encI n b).length - 4) = bodyI n b := by
    rw [hl, Nat.add_sub_cancel]
    unfold encI
    exact List.take_left
  have e2 : (encI n b).drop ((encI n b).length - 4) = sum4 (sumI (bodyI n b)) := by
    rw [hl, Nat.add_sub_cancel]
    unfold encI
    exact List.drop_left
  unfold decR
  rw [if_neg (by omega), e1, e2, if_pos rfl]
  unfold resDA
  rw [decA_body h ho]
  simp only
  rw [if_pos ⟨h, trivial⟩]
theorem lawRoundTrips_fn (z : Bool) (t : Nat) (l : List Item) (n : Nat) (hn : n < 256) (hl : l.length ≤ 9223372036854775807) (hok : ∀ x ∈ l, x.ok) :
    Fn TT PT2 10 [SL z t (l.map Item.row), .int .u8 n] (.bool true) := by
  have hba := base_fn z t l n hn hl hok
  have hv := pre_valid l n (by omega) (by omega)
  obtain ⟨b1, b2, b3, b4, b5⟩ := valid_parts hv
  have hown : ∀ e ∈ preE l 20, e.own = e := fun e he => by
    obtain ⟨y, -, rfl⟩ := (preE_inv l 20).2.2 e he
    rfl
  have hen := encode_fn true 0 (n : Int) (preE l 20) (okE_of b3)
  unfold encV at hen
  rw [hv] at hen
  have hbl := bodyI_len (n := (n : Int)) b3 b1
  have hde := decode_fn true 0 (enc_byt (n : Int) (preE l 20)) (by unfold encI; rw [List.length_append]; simp [sum4]; omega)
  rw [decR_enc hv hown] at hde
  unfold decVv at hde
  have hfm := format_fn true 0 (n : Int) (preE l 20) (valid_text hv)
  have hrA : resA (baseText (n : Int) (preE l 20)) = ((n : Int), preE l 20, 0) := by
    unfold resA
    rw [parseA_text hv hown]
    simp only
    rw [if_pos ⟨hv, trivial⟩]
  have hlen : (baseText (n : Int) (preE l 20)).length ≤ 1000000 := by
    have h1 := flat_len_le entText 500 (preE l 20) fun x hx => by
      obtain ⟨y, -, rfl⟩ := (preE_inv l 20).2.2 x hx
      exact (item_text y).2.2
    have h2 := (preE_inv l 20).1
    have h3 : (preE l 20).length * 500 ≤ 20 * 500 := Nat.mul_le_mul_right 500 h2
    have h4 := itoa_len (n : Int)
    unfold baseText firstText
    simp only [List.length_cons, List.length_append, List.length_nil]
    omega
  have hpa := parse_fn (baseText (n : Int) (preE l 20)) hlen (by rw [hrA]; exact hown)
  rw [hrA] at hpa
  simp only at hpa hde
  have sb := sameB_fn true true 0 0 (n : Int) (preE l 20) (okE_of b3) (by omega)
  generalize baseText (n : Int) (preE l 20) = str at hfm hpa
  generalize encI (n : Int) (preE l 20) = x at hen hde
  generalize preE l 20 = b at hba hen hde hfm hpa sb
  refine Fn_go T10 rfl ?_
  simp only [go_sem, Nat.reduceEqDiff, reduceIte, Nat.reduceAdd, Nat.reduceMul, Nat.reduceLeDiff, Int.reduceLT, Int.reduceLE, Int.reduceToNat, Int.reduceAdd, Int.reduceNeg, Int.reduceEq]
  refine wx_fn (fnm hba) (by simp only [go_sem]) ?_
  simp only [go_sem, Nat.reduceEqDiff, reduceIte, Nat.reduceAdd, Nat.reduceMul, Nat.reduceLeDiff, Int.reduceLT, Int.reduceLE, Int.reduceToNat, Int.reduceAdd, Int.reduceNeg, Int.reduceEq]
  refine wx_fn (fnm hen) (by simp only [go_sem]) ?_
  simp only [go_sem, Nat.reduceEqDiff, reduceIte, Nat.reduceAdd, Nat.reduceMul, Nat.reduceLeDiff, Int.reduceLT, Int.reduceLE, Int.reduceToNat, Int.reduceAdd, Int.reduceNeg, Int.reduceEq]
  refine wx_fn hde (by simp only [go_sem]) ?_
  simp only [go_sem, Nat.reduceEqDiff, reduceIte, Nat.reduceAdd, Nat.reduceMul, Nat.reduceLeDiff, Int.reduceLT, Int.reduceLE, Int.reduceToNat, Int.reduceAdd, Int.reduceNeg, Int.reduceEq]
  refine wx_fn (fnm hfm) (by simp only [go_sem]) ?_
  simp only [go_sem, Nat.reduceEqDiff, reduceIte, Nat.reduceAdd, Nat.reduceMul, Nat.reduceLeDiff, Int.reduceLT, Int.reduceLE, Int.reduceToNat, Int.reduceAdd, Int.reduceNeg, Int.reduceEq]
  refine wx_fn (fnm hpa) (by simp only [go_sem]) ?_
  simp only [go_sem, Nat.reduceEqDiff, reduceIte, Nat.reduceAdd, Nat.reduceMul, Nat.reduceLeDiff, Int.reduceLT, Int.reduceLE, Int.reduceToNat, Int.reduceAdd, Int.reduceNeg, Int.reduceEq, Int.reduceBEq]
  refine wx_fn (fnm sb) (by simp only [go_sem]) ?_
  simp only [go_sem, Nat.reduceEqDiff, reduceIte, Nat.reduceAdd, Nat.reduceMul, Nat.reduceLeDiff, Int.reduceLT, Int.reduceLE, Int.reduceToNat, Int.reduceAdd, Int.reduceNeg, Int.reduceEq]
  refine wx_fn (fnm sb) (by simp only [go_sem]) ?_
  simp only [go_sem, Nat.reduceEqDiff, reduceIte, Nat.reduceAdd, Nat.reduceMul, Nat.reduceLeDiff, Int.reduceLT, Int.reduceLE, Int.reduceToNat, Int.reduceAdd, Int.reduceNeg, Int.reduceEq]
  refine wx_fn (fnm awake_fn) (by simp only [go_sem]) ?_
  simp only [go_sem, Nat.reduceEqDiff, reduceIte, Nat.reduceAdd, Nat.reduceMul, Nat.reduceLeDiff, Int.reduceLT, Int.reduceLE, Int.reduceToNat, Int.reduceAdd, Int.reduceNeg, Int.reduceEq]
  exact fr_set rfl
end Go.Proofs.YtikkmcchhddfoaaGreatDoor.KM
