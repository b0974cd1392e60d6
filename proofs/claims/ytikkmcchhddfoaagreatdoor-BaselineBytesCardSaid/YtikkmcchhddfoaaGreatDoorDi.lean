/- Walks: a number read back by the reference. -/
import Derived.Test.YtikkmcchhddfoaaGreatDoorDc
set_option linter.all false
namespace Go.Proofs.YtikkmcchhddfoaaGreatDoor.KM
open Go
theorem not_i64 {n : Int} (h0 : 0 ≤ n) (h : n < 9223372036854775808) : IntKind.i64.wrap ((BitVec.ofInt 64 (-1) ^^^ BitVec.ofInt 64 n).toNat : Int) = -n - 1 := by
  obtain ⟨a, rfl⟩ := Int.eq_ofNat_of_zero_le h0
  have e : (BitVec.ofInt 64 (-1) ^^^ BitVec.ofInt 64 ((a : Nat) : Int)).toNat = 18446744073709551615 - a := by
    have h1 : BitVec.ofInt 64 (-1) = BitVec.allOnes 64 := by decide
    rw [h1, BitVec.allOnes_xor, BitVec.toNat_not, BitVec.ofInt_natCast, BitVec.toNat_ofNat, Nat.mod_eq_of_lt (by omega)]
  rw [e]
  have e2 : ((18446744073709551615 - a : Nat) : Int) = (-(a : Int) - 1) + 18446744073709551616 := by omega
  rw [e2]
  have e3 : IntKind.i64.wrap ((-(a : Int) - 1) + 18446744073709551616) = IntKind.i64.wrap (-(a : Int) - 1) := by
    have e4 : (-(a : Int) - 1 + 18446744073709551616) % 2 ^ 64 = (-(a : Int) - 1) % 2 ^ 64 := by
      rw [show (2 : Int) ^ 64 = 18446744073709551616 from by decide]
      omega
    exact congrArg (fun r : Int => if (IntKind.i64.signed && decide (r ≥ 2 ^ (IntKind.i64.bits - 1))) = true then r - 2 ^ IntKind.i64.bits else r) e4
  rw [e3, wrap64 (by omega)]
theorem rint_fn (z : Bool) (t : Nat) (l : List Int) (hl : l.length ≤ 1000000000) (hb : Byt l) : Fn TT PT 124 [SL z t (bI l)] (intV l) := by
  refine Fn_go T124 rfl ?_
  simp only [go_sem, Nat.reduceEqDiff, reduceIte, Nat.reduceAdd, Nat.reduceMul, Nat.reduceLeDiff, Int.reduceLT, Int.reduceLE, Int.reduceToNat, Int.reduceAdd, Int.reduceNeg, Int.reduceEq, bI_n]
  refine loop_w (α := Nat × Int) (fun a => l.length - a.1) (fun a => [(0, SL z t (bI l)), (5, .int .u64 a.2), (6, .int .i64 a.1)]) (fun _ => []) (fun a => a.1 ≤ l.length ∧ a.1 ≤ 9 ∧ 0 ≤ a.2 ∧ a.2 < 128 ^ a.1 ∧ outI (rdU a.1 a.2 (l.drop a.1)) (rdE a.1 (l.drop a.1)) = intV l) ?_ (0, 0) ⟨by simp, by simp, by simp, by simp, rfl⟩
  rintro ⟨i, u⟩ ⟨hi, h9, hu0, hu, hr⟩ ih
  simp only at hi h9 hu0 hu hr ih
  refine w_rep (by delta lp124_0; exact rfl) ?_
  have i10 : ((i : Int) < 10) = True := eq_true (by omega)
  rcases Nat.lt_or_ge i l.length with h | h
  · obtain ⟨x, hx, hd, hm⟩ := at_some h
    obtain ⟨x0, x1⟩ := hb x hm
    rw [hd, rdU, rdE] at hr
    have a1 := and127 x0 x1
    have w1 : IntKind.u64.wrap (x % 128) = x % 128 := by rw [u64_wrap]; omega
    have w7 : IntKind.i64.wrap (7 * (i : Int)) = ((7 * i : Nat) : Int) := by rw [wrap64 (by omega)]; simp
    have w8 : IntKind.u64.wrap ((7 * i : Nat) : Int) = ((7 * i : Nat) : Int) := by rw [u64_wrap]; omega
    have n7 : (((7 * i : Nat) : Int) < 0) = False := eq_false (by omega)
    have hinc := inc64 (show i < 9223372036854775807 by omega)
    by_cases hc : i = 9 ∧ 1 < x
    · rw [if_pos hc, if_pos hc] at hr
      obtain ⟨hi9, hx1⟩ := hc
      have f1 : ((i : Int) == 9) = true := by simp [hi9]; try omega
      have f2 : (1 < x) = True := eq_true hx1
      simp only [go_sem, Nat.reduceEqDiff, reduceIte, Nat.reduceAdd, Nat.reduceMul, Nat.reduceLeDiff, Int.reduceLT, Int.reduceLE, Int.reduceToNat, Int.reduceAdd, Int.reduceNeg, Int.reduceEq, i10, ge_f h, bI_n, bI_get hx, f1, f2]
      rw [← hr]
      exact fr_tup rfl
    · rw [if_neg hc, if_neg hc] at hr
      obtain ⟨o1, o2, o3⟩ := or_bits (u := u) (d := x % 128) (i := i) hu0 hu (by omega) (by omega) (by omega)
      have o4 := next_lt (x := x) hu
      generalize u + x % 128 * 128 ^ i = v at hr o1 o2 o3 o4
      obtain ⟨s1, s2⟩ := shr1_u o3 o2
      have d1 := and1_u o3 o2
      have hf : (((i : Int) == 9) = false ∧ ((i : Int) == 9) = false) ∨ (((i : Int) == 9) = true ∧ (1 < x) = False) := by
        by_cases hi9 : i = 9
        · exact .inr ⟨by simp [hi9]; try omega, eq_false (by omega)⟩
        · have : ((i : Int) == 9) = false := by simp; omega
          exact .inl ⟨this, this⟩
      have raw : uR u x i = v := by
        unfold uR
        rw [a1, w1]
        exact o1
      by_cases h128 : 128 ≤ x
      · rw [if_pos h128, if_pos h128] at hr
        have q : (x < 128) = False := eq_false (by omega)
        have h89 : i < 9 := by omega
        rcases hf with ⟨f1, f2⟩ | ⟨f1, f2⟩
        all_goals
          simp only [go_sem, Nat.reduceEqDiff, reduceIte, Nat.reduceAdd, Nat.reduceMul, Nat.reduceLeDiff, Int.reduceLT, Int.reduceLE, Int.reduceToNat, Int.reduceAdd, Int.reduceNeg, Int.reduceEq, i10, ge_f h, bI_n, bI_get hx, f1, f2, w7, w8, n7, Int.toNat_natCast, q, hinc]
          exact W_keep (ih (i + 1, v) (by simp; omega) ⟨by simp; omega, by simp; omega, o3, o4, hr⟩) (congrArg (fun q => [(0, SL z t (bI l)), (5, V.int .u64 q), (6, V.int .i64 ((i + 1 : Nat) : Int))]) raw)
      · rw [if_neg h128, if_neg h128] at hr
        have q : (x < 128) = True := eq_true (by omega)
        by_cases hz : x = 0 ∧ 0 < i
        · rw [if_pos hz, if_pos hz] at hr
          have z1 : (x == 0) = true := by simp [hz.1]
          have z2 : (0 < (i : Int)) = True := eq_true (by omega)
          rcases hf with ⟨f1, f2⟩ | ⟨f1, f2⟩
          all_goals
            simp only [go_sem, Nat.reduceEqDiff, reduceIte, Nat.reduceAdd, Nat.reduceMul, Nat.reduceLeDiff, Int.reduceLT, Int.reduceLE, Int.reduceToNat, Int.reduceAdd, Int.reduceNeg, Int.reduceEq, i10, ge_f h, bI_n, bI_get hx, f1, f2, w7, w8, n7, Int.toNat_natCast, q, z1, z2]
            rw [← hr]
            exact fr_tup rfl
        · rw [if_neg hz, if_neg hz] at hr
          have hzz : ((0 < (i : Int)) = False ∧ (0 < (i : Int)) = False) ∨ ((0 < (i : Int)) = True ∧ (x == 0) = false) := by
            by_cases hi0 : 0 < i
            · exact .inr ⟨eq_true (by omega), by simp; omega⟩
            · have : (0 < (i : Int)) = False := eq_false (by omega)
              exact .inl ⟨this, this⟩
          have hp : v % 2 = 0 ∨ v % 2 = 1 := by omega
          have m1 := not_i64 (n := v / 2) (by omega) (by omega)
          have rn : IntKind.i64.wrap ((uR u x i).fdiv (2 ^ min 1 64)) = v / 2 := by rw [raw, s1, s2]
          rcases hp with hp | hp
          · have e : unzig v = v / 2 := by unfold unzig; rw [if_pos hp]
            have hr : V.tup [.int .i64 (v / 2), .int .i64 ((i + 1 : Nat) : Int), .int .i64 0] = intV l := by rw [← hr, ← e]; rfl
            have rc : (IntKind.u64.wrap ((BitVec.ofInt 64 (uR u x i) &&& BitVec.ofInt 64 1).toNat : Int) == 1) = false := by
              rw [raw, d1, hp]
              rfl
            rcases hf with ⟨f1, f2⟩ | ⟨f1, f2⟩ <;> rcases hzz with ⟨z1, z2⟩ | ⟨z1, z2⟩
            all_goals
              simp only [go_sem, Nat.reduceEqDiff, reduceIte, Nat.reduceAdd, Nat.reduceMul, Nat.reduceLeDiff, Int.reduceLT, Int.reduceLE, Int.reduceToNat, Int.reduceAdd, Int.reduceNeg, Int.reduceEq, i10, ge_f h, bI_n, bI_get hx, f1, f2, w7, w8, n7, Int.toNat_natCast, q, z1, z2, hinc]
              refine wc_f (congrArg V.bool rc) ?_
              simp only [go_sem, Nat.reduceEqDiff, reduceIte, Nat.reduceAdd, Nat.reduceMul, Nat.reduceLeDiff, Int.reduceLT, Int.reduceLE, Int.reduceToNat, Int.reduceAdd, Int.reduceNeg, Int.reduceEq, hinc]
              exact fr_teq rfl ((congrArg (fun q => V.tup [V.int .i64 q, V.int .i64 ((i + 1 : Nat) : Int), V.int .i64 0]) rn).trans hr)
          · have e : unzig v = -(v / 2) - 1 := by unfold unzig; rw [if_neg (by omega)]
            have hr : V.tup [.int .i64 (-(v / 2) - 1), .int .i64 ((i + 1 : Nat) : Int), .int .i64 0] = intV l := by rw [← hr, ← e]; rfl
            have rc : (IntKind.u64.wrap ((BitVec.ofInt 64 (uR u x i) &&& BitVec.ofInt 64 1).toNat : Int) == 1) = true := by
              rw [raw, d1, hp]
              rfl
            have rm : IntKind.i64.wrap ((BitVec.ofInt 64 (-1) ^^^ BitVec.ofInt 64 (IntKind.i64.wrap ((uR u x i).fdiv (2 ^ min 1 64)))).toNat : Int) = -(v / 2) - 1 := by rw [rn, m1]
            rcases hf with ⟨f1, f2⟩ | ⟨f1, f2⟩ <;> rcases hzz with ⟨z1, z2⟩ | ⟨z1, z2⟩
            all_goals
              simp only [go_sem, Nat.reduceEqDiff, reduceIte, Nat.reduceAdd, Nat.reduceMul, Nat.reduceLeDiff, Int.reduceLT, Int.reduceLE, Int.reduceToNat, Int.reduceAdd, Int.reduceNeg, Int.reduceEq, i10, ge_f h, bI_n, bI_get hx, f1, f2, w7, w8, n7, Int.toNat_natCast, q, z1, z2, hinc]
              refine wc_t (congrArg V.bool rc) ?_
              simp only [go_sem, Nat.reduceEqDiff, reduceIte, Nat.reduceAdd, Nat.reduceMul, Nat.reduceLeDiff, Int.reduceLT, Int.reduceLE, Int.reduceToNat, Int.reduceAdd, Int.reduceNeg, Int.reduceEq, hinc]
              exact fr_teq rfl ((congrArg (fun q => V.tup [V.int .i64 q, V.int .i64 ((i + 1 : Nat) : Int), V.int .i64 0]) rm).trans hr)
  · rw [List.drop_eq_nil_of_le h] at hr
    have hr : V.tup [.int .i64 0, .int .i64 0, .int .i64 9] = intV l := hr
    simp only [go_sem, Nat.reduceEqDiff, reduceIte, Nat.reduceAdd, Nat.reduceMul, Nat.reduceLeDiff, Int.reduceLT, Int.reduceLE, Int.reduceToNat, Int.reduceAdd, Int.reduceNeg, Int.reduceEq, i10, ge_t h, bI_n]
    rw [← hr]
    exact fr_tup rfl
end Go.Proofs.YtikkmcchhddfoaaGreatDoor.KM
