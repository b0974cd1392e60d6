/- Walks: a number read back by the program. -/
import Derived.Test.YtikkmcchhddfoaaGreatDoorDa
import Derived.Test.YtikkmcchhddfoaaGreatDoorNd
set_option linter.all false
namespace Go.Proofs.YtikkmcchhddfoaaGreatDoor.KM
open Go
theorem or_bits {u d : Int} {i : Nat} (hu0 : 0 ≤ u) (hu : u < 128 ^ i) (hd0 : 0 ≤ d) (hd : d < 128) (hi : i < 9 ∨ i = 9 ∧ d ≤ 1) :
    IntKind.u64.wrap ((BitVec.ofInt 64 u ||| BitVec.ofInt 64 (IntKind.u64.wrap (d * 2 ^ min (7 * i) 64))).toNat : Int) = u + d * 128 ^ i ∧ u + d * 128 ^ i < 18446744073709551616 ∧ 0 ≤ u + d * 128 ^ i := by
  obtain ⟨a, rfl⟩ := Int.eq_ofNat_of_zero_le hu0
  obtain ⟨c, rfl⟩ := Int.eq_ofNat_of_zero_le hd0
  have e1 : min (7 * i) 64 = 7 * i := by omega
  have e2 : ((128 : Int) ^ i) = ((2 ^ (7 * i) : Nat) : Int) := by
    rw [Nat.pow_mul]
    simp
  rw [e1]
  rw [e2] at hu ⊢
  have ha : a < 2 ^ (7 * i) := by exact_mod_cast hu
  have hb : c * 2 ^ (7 * i) + 2 ^ (7 * i) ≤ 2 ^ 64 := by
    rcases hi with hi | ⟨rfl, hc⟩
    · have : 2 ^ (7 * i) ≤ 2 ^ (7 * 8) := Nat.pow_le_pow_right (by decide) (by omega)
      have h1 : (c + 1) * 2 ^ (7 * i) ≤ 128 * 2 ^ (7 * 8) := Nat.mul_le_mul (by omega) this
      rw [Nat.succ_mul] at h1
      exact Nat.le_trans h1 (by decide)
    · have h1 : (c + 1) * 2 ^ (7 * 9) ≤ 2 * 2 ^ (7 * 9) := Nat.mul_le_mul (by omega) (Nat.le_refl _)
      rw [Nat.succ_mul] at h1
      exact Nat.le_trans h1 (by decide)
  have hp : 0 < 2 ^ (7 * i) := Nat.pow_pos (by decide)
  have e3 : ((c : Int) * 2 ^ (7 * i)) = ((c * 2 ^ (7 * i) : Nat) : Int) := by simp
  have hlt : c * 2 ^ (7 * i) < 2 ^ 64 := by omega
  have e4 : IntKind.u64.wrap (((c * 2 ^ (7 * i) : Nat) : Int)) = ((c * 2 ^ (7 * i) : Nat) : Int) := by
    rw [u64_wrap]
    omega
  have hor : a ||| c * 2 ^ (7 * i) = a + c * 2 ^ (7 * i) := by
    rw [Nat.or_comm, Nat.mul_comm c, ← Nat.two_pow_add_eq_or_of_lt ha, Nat.add_comm]
  rw [e3, e4]
  have e5 : (BitVec.ofInt 64 ((a : Nat) : Int) ||| BitVec.ofInt 64 ((c * 2 ^ (7 * i) : Nat) : Int)).toNat = a + c * 2 ^ (7 * i) := by
    rw [BitVec.toNat_or, BitVec.ofInt_natCast, BitVec.ofInt_natCast, BitVec.toNat_ofNat, BitVec.toNat_ofNat, Nat.mod_eq_of_lt (by omega), Nat.mod_eq_of_lt hlt, hor]
  rw [e5, u64_wrap]
  have e6 : (((a : Nat) : Int) + (c : Int) * ((2 ^ (7 * i) : Nat) : Int)) = ((a + c * 2 ^ (7 * i) : Nat) : Int) := by simp
  rw [e6]
  refine ⟨by omega, by omega, by omega⟩
theorem and127 {x : Int} (h0 : 0 ≤ x) (h : x < 256) : IntKind.u8.wrap ((BitVec.ofInt 8 x &&& BitVec.ofInt 8 127).toNat : Int) = x % 128 := by
  have hb : ∀ m : Nat, m < 256 → IntKind.u8.wrap ((BitVec.ofInt 8 (m : Int) &&& BitVec.ofInt 8 127).toNat : Int) = ((m % 128 : Nat) : Int) := by
    have : (List.range 256).all (fun m => IntKind.u8.wrap ((BitVec.ofInt 8 (m : Int) &&& BitVec.ofInt 8 127).toNat : Int) == ((m % 128 : Nat) : Int)) = true := by decide +kernel
    intro m hm
    exact eq_of_beq (List.all_eq_true.1 this m (List.mem_range.2 hm))
  have := hb x.toNat (by omega)
  rw [Int.toNat_of_nonneg h0] at this
  rw [this]
  omega
theorem and1_u {u : Int} (h0 : 0 ≤ u) (h : u < 18446744073709551616) : IntKind.u64.wrap ((BitVec.ofInt 64 u &&& BitVec.ofInt 64 1).toNat : Int) = u % 2 := by
  obtain ⟨a, rfl⟩ := Int.eq_ofNat_of_zero_le h0
  have e : (BitVec.ofInt 64 ((a : Nat) : Int) &&& BitVec.ofInt 64 1).toNat = a % 2 := by
    rw [BitVec.toNat_and, BitVec.ofInt_natCast, BitVec.toNat_ofNat, Nat.mod_eq_of_lt (by omega)]
    show a &&& 1 = _
    exact Nat.and_one_is_mod _
  rw [e, u64_wrap]
  omega
theorem shr1_u {u : Int} (h0 : 0 ≤ u) (h : u < 18446744073709551616) : u.fdiv (2 ^ min 1 64) = u / 2 ∧ IntKind.i64.wrap (u / 2) = u / 2 := by
  refine ⟨?_, ?_⟩
  · rw [Int.fdiv_eq_ediv_of_nonneg _ (by decide)]
    rfl
  · exact wrap64 (by omega)
theorem next_lt {u x : Int} {i : Nat} (hu : u < 128 ^ i) : u + x % 128 * 128 ^ i < 128 ^ (i + 1) := by
  have h1 : x % 128 * 128 ^ i ≤ 127 * 128 ^ i := Int.mul_le_mul_of_nonneg_right (by omega) (Int.le_of_lt (pow_pos128 i))
  rw [pow_128]
  omega
def rdE : Nat → List Int → Int
  | _, [] => 9
  | i, x :: r => if i = 9 ∧ 1 < x then 11 else if 128 ≤ x then rdE (i + 1) r else if x = 0 ∧ 0 < i then 11 else 0
def outI (o : Option (Int × Nat)) (e : Int) : V :=
  match o with
  | some p => .tup [.int .i64 (unzig p.1), .int .i64 p.2, .int .i64 0]
  | none => .tup [.int .i64 0, .int .i64 0, .int .i64 e]
def intV (l : List Int) : V := outI (rdU 0 0 l) (rdE 0 l)
theorem rdE_none : ∀ (l : List Int) (i : Nat) (u : Int), rdU i u l = none → rdE i l = 9 ∨ rdE i l = 11
  | [], _, _, _ => .inl rfl
  | x :: r, i, u, h => by
    rw [rdU] at h
    rw [rdE]
    split at h
    · rename_i hc; rw [if_pos hc]; exact .inr rfl
    · rename_i hc
      rw [if_neg hc]
      split at h
      · rename_i h1
        rw [if_pos h1]
        exact rdE_none r _ _ h
      · rename_i h1
        rw [if_neg h1]
        split at h
        · rename_i h2; rw [if_pos h2]; exact .inr rfl
        · cases h
def uR (u x : Int) (i : Nat) : Int := IntKind.u64.wrap ((BitVec.ofInt 64 u ||| BitVec.ofInt 64 (IntKind.u64.wrap (IntKind.u64.wrap (IntKind.u8.wrap ((BitVec.ofInt 8 x &&& BitVec.ofInt 8 127).toNat : Int)) * 2 ^ min (7 * i) 64))).toNat : Int)
section
variable {T : Nat → Option AF} {pr : Nat → Option (List V → Option V)} {Q : Env → St → Prop} {e : Env} {σ : St} {k : List It} {kill : List Nat} {x y : AC} {g : V}
theorem wc_t (h : g = .bool true) (hh : WE T pr (e.del kill) (.c x :: k) σ Q) : WC T pr g kill x y k e σ Q := by subst h; exact hh
theorem wc_f (h : g = .bool false) (hh : WE T pr (e.del kill) (.c y :: k) σ Q) : WC T pr g kill x y k e σ Q := by subst h; exact hh
end
theorem fr_teq {vs : List V} {σ : St} {v : V} (h : vs.all setC = true) (he : V.tup vs = v) : FR (.tup vs) σ v := he ▸ fr_tup h
theorem eint_fn (z : Bool) (t : Nat) (l : List Int) (hl : l.length ≤ 1000000000) (hb : Byt l) : Fn D0.T0 D0.P0 171 [SL z t (bI l)] (intV l) := by
  refine Fn_go D0.T171 rfl ?_
  simp only [go_sem, Nat.reduceEqDiff, reduceIte, Nat.reduceAdd, Nat.reduceMul, Nat.reduceLeDiff, Int.reduceLT, Int.reduceLE, Int.reduceToNat, Int.reduceAdd, Int.reduceNeg, Int.reduceEq, bI_n]
  refine loop_w (α := Nat × Int) (fun a => l.length - a.1) (fun a => [(5, .int .u64 a.2), (9, SL z t (bI l)), (10, .int .i64 l.length), (11, .int .i64 a.1)]) (fun _ => []) (fun a => a.1 ≤ l.length ∧ a.1 ≤ 9 ∧ 0 ≤ a.2 ∧ a.2 < 128 ^ a.1 ∧ outI (rdU a.1 a.2 (l.drop a.1)) (rdE a.1 (l.drop a.1)) = intV l) ?_ (0, 0) ⟨by simp, by simp, by simp, by simp, rfl⟩
  rintro ⟨i, u⟩ ⟨hi, h9, hu0, hu, hr⟩ ih
  simp only at hi h9 hu0 hu hr ih
  refine w_rep (by delta D0.lp171_0; exact rfl) ?_
  rcases Nat.lt_or_ge i l.length with h | h
  · obtain ⟨x, hx, hd, hm⟩ := at_some h
    obtain ⟨x0, x1⟩ := hb x hm
    rw [hd, rdU, rdE] at hr
    have a1 := and127 x0 x1
    have w1 : IntKind.u64.wrap (x % 128) = x % 128 := by rw [u64_wrap]; omega
    have w7 : IntKind.i64.wrap (7 * (i : Int)) = ((7 * i : Nat) : Int) := by rw [wrap64 (by omega)]; simp
    have n7 : (((7 * i : Nat) : Int) < 0) = False := eq_false (by omega)
    have hinc := inc64 (show i < 9223372036854775807 by omega)
    by_cases hc : i = 9 ∧ 1 < x
    · rw [if_pos hc, if_pos hc] at hr
      obtain ⟨hi9, hx1⟩ := hc
      have f1 : ((i : Int) == 9) = true := by simp [hi9]; try omega
      have f2 : (1 < x) = True := eq_true hx1
      simp only [go_sem, Nat.reduceEqDiff, reduceIte, Nat.reduceAdd, Nat.reduceMul, Nat.reduceLeDiff, Int.reduceLT, Int.reduceLE, Int.reduceToNat, Int.reduceAdd, Int.reduceNeg, Int.reduceEq, lt_t h, bI_get hx, f1, f2]
      rw [← hr]
      exact fr_tup rfl
    · rw [if_neg hc, if_neg hc] at hr
      obtain ⟨o1, o2, o3⟩ := or_bits (u := u) (d := x % 128) (i := i) hu0 hu (by omega) (by omega) (by omega)
      have o4 := next_lt (x := x) hu
      generalize u + x % 128 * 128 ^ i = v at hr o1 o2 o3 o4
      obtain ⟨s1, s2⟩ := shr1_u o3 o2
      have d1 := and1_u o3 o2
      have hf : (((i : Int) == 9) = false ∧ ((i : Int) == 9) = false) ∨ (((i : Int) == 9) = true ∧ (1 < x) = False) := by
        by_cases hi9 : i = 9
        · exact .inr ⟨by simp [hi9]; try omega, eq_false (by omega)⟩
        · have : ((i : Int) == 9) = false := by simp; omega
          exact .inl ⟨this, this⟩
      have raw : IntKind.u64.wrap ((BitVec.ofInt 64 u ||| BitVec.ofInt 64 (IntKind.u64.wrap (IntKind.u64.wrap (IntKind.u8.wrap ((BitVec.ofInt 8 x &&& BitVec.ofInt 8 127).toNat : Int)) * 2 ^ min (7 * i) 64))).toNat : Int) = v := by
        rw [a1, w1]
        exact o1
      by_cases h128 : 128 ≤ x
      · rw [if_pos h128, if_pos h128] at hr
        have q : (128 ≤ x) = True := eq_true h128
        rcases hf with ⟨f1, f2⟩ | ⟨f1, f2⟩
        all_goals
          simp only [go_sem, Nat.reduceEqDiff, reduceIte, Nat.reduceAdd, Nat.reduceMul, Nat.reduceLeDiff, Int.reduceLT, Int.reduceLE, Int.reduceToNat, Int.reduceAdd, Int.reduceNeg, Int.reduceEq, lt_t h, bI_get hx, f1, f2, a1, w1, w7, n7, Int.toNat_natCast, o1, q, hinc]
          exact W_keep (ih (i + 1, v) (by simp; omega) ⟨by simp; omega, by simp; omega, o3, o4, hr⟩) (congrArg (fun q => [(5, V.int .u64 q), (9, SL z t (bI l)), (10, V.int .i64 (l.length : Int)), (11, V.int .i64 ((i + 1 : Nat) : Int))]) raw)
      · rw [if_neg h128, if_neg h128] at hr
        have q : (128 ≤ x) = False := eq_false h128
        by_cases hz : x = 0 ∧ 0 < i
        · rw [if_pos hz, if_pos hz] at hr
          have z1 : (x == 0) = true := by simp [hz.1]
          have z2 : (0 < (i : Int)) = True := eq_true (by omega)
          rcases hf with ⟨f1, f2⟩ | ⟨f1, f2⟩
          all_goals
            simp only [go_sem, Nat.reduceEqDiff, reduceIte, Nat.reduceAdd, Nat.reduceMul, Nat.reduceLeDiff, Int.reduceLT, Int.reduceLE, Int.reduceToNat, Int.reduceAdd, Int.reduceNeg, Int.reduceEq, lt_t h, bI_get hx, f1, f2, a1, w1, w7, n7, Int.toNat_natCast, o1, q, z1, z2]
            rw [← hr]
            exact fr_tup rfl
        · rw [if_neg hz, if_neg hz] at hr
          have hzz : ((x == 0) = false ∧ (x == 0) = false) ∨ ((x == 0) = true ∧ (0 < (i : Int)) = False) := by
            by_cases hx0 : x = 0
            · exact .inr ⟨by simp [hx0], eq_false (by omega)⟩
            · exact .inl ⟨by simpa using hx0, by simpa using hx0⟩
          have hp : v % 2 = 0 ∨ v % 2 = 1 := by omega
          have m1 : IntKind.i64.wrap (0 - v / 2) = -(v / 2) := by rw [wrap64 (by omega)]; omega
          have m2 : IntKind.i64.wrap (-(v / 2) - 1) = -(v / 2) - 1 := wrap64 (by omega)
          have rn : IntKind.i64.wrap ((uR u x i).fdiv (2 ^ min 1 64)) = v / 2 := by
            rw [show uR u x i = v from raw, s1, s2]
          rcases hp with hp | hp
          · have e : unzig v = v / 2 := by unfold unzig; rw [if_pos hp]
            have hr : V.tup [.int .i64 (v / 2), .int .i64 ((i + 1 : Nat) : Int), .int .i64 0] = intV l := by rw [← hr, ← e]; rfl
            have rc : (IntKind.u64.wrap ((BitVec.ofInt 64 (uR u x i) &&& BitVec.ofInt 64 1).toNat : Int) != 0) = false := by
              rw [show uR u x i = v from raw, d1, hp]
              rfl
            rcases hf with ⟨f1, f2⟩ | ⟨f1, f2⟩ <;> rcases hzz with ⟨z1, z2⟩ | ⟨z1, z2⟩
            all_goals
              simp only [go_sem, Nat.reduceEqDiff, reduceIte, Nat.reduceAdd, Nat.reduceMul, Nat.reduceLeDiff, Int.reduceLT, Int.reduceLE, Int.reduceToNat, Int.reduceAdd, Int.reduceNeg, Int.reduceEq, lt_t h, bI_get hx, f1, f2, w7, n7, Int.toNat_natCast, q, z1, z2, hinc]
              refine wc_f (congrArg V.bool rc) ?_
              simp only [go_sem, Nat.reduceEqDiff, reduceIte, Nat.reduceAdd, Nat.reduceMul, Nat.reduceLeDiff, Int.reduceLT, Int.reduceLE, Int.reduceToNat, Int.reduceAdd, Int.reduceNeg, Int.reduceEq, hinc]
              exact fr_teq rfl ((congrArg (fun q => V.tup [V.int .i64 q, V.int .i64 ((i + 1 : Nat) : Int), V.int .i64 0]) rn).trans hr)
          · have e : unzig v = -(v / 2) - 1 := by unfold unzig; rw [if_neg (by omega)]
            have hr : V.tup [.int .i64 (-(v / 2) - 1), .int .i64 ((i + 1 : Nat) : Int), .int .i64 0] = intV l := by rw [← hr, ← e]; rfl
            have rc : (IntKind.u64.wrap ((BitVec.ofInt 64 (uR u x i) &&& BitVec.ofInt 64 1).toNat : Int) != 0) = true := by
              rw [show uR u x i = v from raw, d1, hp]
              rfl
            have rm : IntKind.i64.wrap (IntKind.i64.wrap (0 - IntKind.i64.wrap ((uR u x i).fdiv (2 ^ min 1 64))) - 1) = -(v / 2) - 1 := by rw [rn, m1, m2]
            rcases hf with ⟨f1, f2⟩ | ⟨f1, f2⟩ <;> rcases hzz with ⟨z1, z2⟩ | ⟨z1, z2⟩
            all_goals
              simp only [go_sem, Nat.reduceEqDiff, reduceIte, Nat.reduceAdd, Nat.reduceMul, Nat.reduceLeDiff, Int.reduceLT, Int.reduceLE, Int.reduceToNat, Int.reduceAdd, Int.reduceNeg, Int.reduceEq, lt_t h, bI_get hx, f1, f2, w7, n7, Int.toNat_natCast, q, z1, z2, hinc]
              refine wc_t (congrArg V.bool rc) ?_
              simp only [go_sem, Nat.reduceEqDiff, reduceIte, Nat.reduceAdd, Nat.reduceMul, Nat.reduceLeDiff, Int.reduceLT, Int.reduceLE, Int.reduceToNat, Int.reduceAdd, Int.reduceNeg, Int.reduceEq, hinc]
              exact fr_teq rfl ((congrArg (fun q => V.tup [V.int .i64 q, V.int .i64 ((i + 1 : Nat) : Int), V.int .i64 0]) rm).trans hr)
  · rw [List.drop_eq_nil_of_le h] at hr
    have hr : V.tup [.int .i64 0, .int .i64 0, .int .i64 9] = intV l := hr
    simp only [go_sem, Nat.reduceEqDiff, reduceIte, Nat.reduceAdd, Nat.reduceMul, Nat.reduceLeDiff, Int.reduceLT, Int.reduceLE, Int.reduceToNat, Int.reduceAdd, Int.reduceNeg, Int.reduceEq, lt_f h]
    rw [← hr]
    exact fr_tup rfl
end Go.Proofs.YtikkmcchhddfoaaGreatDoor.KM
