/- Plain: what both decoders of baselines read. -/
import Derived.Test.YtikkmcchhddfoaaGreatDoorSc
set_option linter.all false
namespace Go.Proofs.YtikkmcchhddfoaaGreatDoor.KM
open Go
def Byt (l : List Int) : Prop := ∀ x ∈ l, 0 ≤ x ∧ x < 256
def byt (l : List Int) : List UInt8 := l.map fun x => UInt8.ofNat x.toNat
theorem byt_str (s : List UInt8) : byt (strI s) = s := by
  unfold byt strI
  rw [List.map_map]
  conv => rhs; rw [← List.map_id s]
  refine List.map_congr_left fun c _ => ?_
  simp
theorem str_byt {l : List Int} (h : Byt l) : strI (byt l) = l := by
  unfold byt strI
  rw [List.map_map]
  conv => rhs; rw [← List.map_id l]
  refine List.map_congr_left fun x hx => ?_
  have := h x hx
  simp only [Function.comp_apply, id_eq, UInt8.toNat_ofNat']
  omega
theorem str_in (s : List UInt8) : Byt (strI s) := by
  intro x hx
  obtain ⟨c, _, rfl⟩ := List.mem_map.1 hx
  have := c.toNat_lt
  omega
/-! numbers read back -/
def rdU : Nat → Int → List Int → Option (Int × Nat)
  | _, _, [] => none
  | i, u, x :: r => if i = 9 ∧ 1 < x then none else
    if 128 ≤ x then rdU (i + 1) (u + x % 128 * 128 ^ i) r
    else if x = 0 ∧ 0 < i then none else some (u + x % 128 * 128 ^ i, i + 1)
def unzig (u : Int) : Int := if u % 2 = 0 then u / 2 else -(u / 2) - 1
def intA (l : List Int) : Option (Int × Nat) := (rdU 0 0 l).map fun p => (unzig p.1, p.2)
theorem u64_wrap (x : Int) : IntKind.u64.wrap x = x % 18446744073709551616 := by
  unfold IntKind.wrap
  rfl
theorem u8_wrap (x : Int) : IntKind.u8.wrap x = x % 256 := by
  unfold IntKind.wrap
  rfl
theorem zig_pos {n : Int} (h0 : 0 ≤ n) (h : n < 4611686018427387904) : zig n = 2 * n := by
  unfold zig
  rw [if_neg (by omega)]
  unfold zig0
  rw [u64_wrap, u64_wrap]
  show n % 18446744073709551616 * 2 % 18446744073709551616 = 2 * n
  omega
theorem orB_eq {u : Int} (h : 0 ≤ u) : orB u = u % 128 + 128 := by
  unfold orB
  rw [u8_wrap u]
  have h1 : u % 256 = u % 128 ∨ u % 256 = u % 128 + 128 := by omega
  have hb : ∀ m : Nat, m < 256 → IntKind.u8.wrap ((BitVec.ofInt 8 (m : Int) ||| BitVec.ofInt 8 128).toNat : Int) = ((m % 128 + 128 : Nat) : Int) := by
    have : (List.range 256).all (fun m => IntKind.u8.wrap ((BitVec.ofInt 8 (m : Int) ||| BitVec.ofInt 8 128).toNat : Int) == ((m % 128 + 128 : Nat) : Int)) = true := by decide +kernel
    intro m hm
    exact eq_of_beq (List.all_eq_true.1 this m (List.mem_range.2 hm))
  have := hb (u % 256).toNat (by omega)
  rw [Int.toNat_of_nonneg (by omega)] at this
  rw [this]
  omega
theorem pow_128 (i : Nat) : (128 : Int) ^ (i + 1) = 128 ^ i * 128 := Int.pow_succ ..
theorem pow_pos128 (i : Nat) : 0 < (128 : Int) ^ i := Int.pow_pos (by decide)
/-- the number of its bytes -/
theorem rd_var : ∀ (k i : Nat) (acc u : Int) (r : List Int), 0 ≤ u → u < 128 ^ (k + 1) → i + k ≤ 8 → (0 < i → u ≠ 0) → rdU i acc (varI k u ++ r) = some (acc + u * 128 ^ i, i + (varI k u).length)
  | 0, i, acc, u, r, h0, h1, hi, hn => by
    have h1' : u < 128 := by simpa using h1
    have e : IntKind.u8.wrap u = u := by rw [u8_wrap]; omega
    have e2 : u % 128 = u := by omega
    simp only [varI, e, List.cons_append, List.nil_append, rdU, List.length_singleton, e2]
    rw [if_neg (by omega), if_neg (by omega), if_neg (fun h => hn h.2 h.1)]
  | k + 1, i, acc, u, r, h0, h1, hi, hn => by
    by_cases hu : 128 ≤ u
    · have e : varI (k + 1) u = orB u :: varI k (sh7 u) := by rw [varI, if_pos hu]
      have ho := orB_eq h0
      have hs := sh7_eq u h0
      have hlt : u / 128 < 128 ^ (k + 1) := by
        rw [pow_128 (k + 1)] at h1
        exact Int.ediv_lt_of_lt_mul (by decide) h1
      have ih := rd_var k (i + 1) (acc + (u % 128 + 128) % 128 * 128 ^ i) (u / 128) r (by omega) hlt (by omega) (fun _ => by omega)
      rw [e]
      simp only [List.cons_append, rdU]
      rw [ho, hs, if_neg (by omega), if_pos (by omega), ih]
      simp only [List.length_cons, Option.some.injEq, Prod.mk.injEq]
      refine ⟨?_, by omega⟩
      rw [pow_128 i]
      have e3 : (u % 128 + 128) % 128 = u % 128 := by omega
      have e4 : u = u / 128 * 128 + u % 128 := by omega
      rw [e3]
      conv => rhs; rw [e4]
      rw [Int.add_mul, Int.mul_assoc (u / 128), Int.mul_comm 128 (128 ^ i)]
      omega
    · have e : IntKind.u8.wrap u = u := by rw [u8_wrap]; omega
      have e2 : u % 128 = u := by omega
      rw [varI_small hu]
      simp only [e, List.cons_append, List.nil_append, rdU, List.length_singleton, e2]
      rw [if_neg (by omega), if_neg (by omega), if_neg (fun h => hn h.2 h.1)]
theorem varI_cut : ∀ (k j : Nat) (u : Int), 0 ≤ u → u < 128 ^ (k + 1) → varI (k + j) u = varI k u
  | 0, j, u, h0, h1 => by
    have h1' : u < 128 := by simpa using h1
    rw [varI_small (by omega), varI_small (by omega)]
  | k + 1, j, u, h0, h1 => by
    by_cases hu : 128 ≤ u
    · have hlt : u / 128 < 128 ^ (k + 1) := by
        rw [pow_128 (k + 1)] at h1
        exact Int.ediv_lt_of_lt_mul (by decide) h1
      rw [show k + 1 + j = k + j + 1 by omega, varI, varI, if_pos hu, if_pos hu, varI_cut k j (sh7 u) (by rw [sh7_eq u h0]; omega) (by rw [sh7_eq u h0]; exact hlt)]
    · rw [varI_small hu, varI_small hu]
theorem intA_var {n : Int} (h0 : 0 ≤ n) (h : n < 4611686018427387904) (r : List Int) : intA (varL n ++ r) = some (n, (varL n).length) := by
  have hz := zig_pos h0 h
  unfold intA varL
  rw [hz, varI_cut 8 2 (2 * n) (by omega) (by
    show 2 * n < 9223372036854775808
    omega), rd_var 8 0 0 (2 * n) r (by omega) (by
    show 2 * n < 9223372036854775808
    omega) (by omega) (by omega)]
  simp only [Option.map_some, Option.some.injEq, Prod.mk.injEq]
  unfold unzig
  refine ⟨?_, by omega⟩
  rw [if_pos (by simp)]
  simp
theorem rdU_size : ∀ (l : List Int) (i : Nat) (u : Int) (v : Int) (k : Nat), rdU i u l = some (v, k) → i < k ∧ k ≤ i + l.length
  | [], _, _, _, _, h => by cases h
  | x :: r, i, u, v, k, h => by
    rw [rdU] at h
    split at h
    · cases h
    · split at h
      · have := rdU_size r _ _ _ _ h
        simp
        omega
      · split at h
        · cases h
        · cases h
          simp
def numR (most : Int) (l : List Int) : Option (Int × List Int) :=
  match intA l with
  | some (n, k) => if 0 ≤ n ∧ n ≤ most then some (n, l.drop k) else none
  | none => none
def textR (most : Int) (l : List Int) : Option (List UInt8 × List Int) :=
  match numR most l with
  | some (n, r) => if n.toNat ≤ r.length then some (byt (r.take n.toNat), r.drop n.toNat) else none
  | none => none
theorem numR_var {n most : Int} (h0 : 0 ≤ n) (h1 : n ≤ most) (h2 : most < 4611686018427387904) (r : List Int) : numR most (varL n ++ r) = some (n, r) := by
  unfold numR
  rw [intA_var h0 (by omega)]
  simp only
  rw [if_pos ⟨h0, h1⟩, List.drop_left]
theorem textR_var {s : List UInt8} {most : Int} (h1 : (s.length : Int) ≤ most) (h2 : most < 4611686018427387904) (r : List Int) : textR most (varL (s.length : Int) ++ (strI s ++ r)) = some (s, r) := by
  have hl : (strI s).length = s.length := List.length_map ..
  unfold textR
  rw [numR_var (by omega) h1 h2]
  simp only [Int.toNat_natCast]
  rw [if_pos (by simp [hl]), ← hl, List.take_left, List.drop_left, byt_str]
/-! the program's decoder -/
def keyR (l : List Int) : Option (Key × List Int) :=
  match numR 59 l with
  | some (n, r1) => match textR 12 r1 with
    | some (a, r2) => match textR 1000 r2 with
      | some (b, r3) => some ((a, b, n), r3)
      | none => none
    | none => none
  | none => none
def keysR : Nat → List Int → Option (List Key × List Int)
  | 0, l => some ([], l)
  | c + 1, l => match keyR l with
    | some (k, r) => match keysR c r with
      | some (ks, r2) => some (k :: ks, r2)
      | none => none
    | none => none
def entR (l : List Int) : Option (Ent × List Int) :=
  match numR 4 l with
  | some (a, r1) => match numR 1073741824 r1 with
    | some (b, r2) => match numR 7 r2 with
      | some (c, r3) => match numR 4 r3 with
        | some (d, r4) => match keysR d.toNat r4 with
          | some (ks, r5) => some (⟨a, ks, b, c, true, 0⟩, r5)
          | none => none
        | none => none
      | none => none
    | none => none
  | none => none
def entsR : Nat → List Int → Option (List Ent × List Int)
  | 0, l => some ([], l)
  | c + 1, l => match entR l with
    | some (e, r) => match entsR c r with
      | some (es, r2) => some (e :: es, r2)
      | none => none
    | none => none
def magI : List Int := [73, 66, 76, 49]
def decA (l : List Int) : Option (Int × List Ent) :=
  if l.take 4 = magI then
    match numR 1073741824 (l.drop 4) with
    | some (n, r1) => match numR 64 r1 with
      | some (c, r2) => match entsR c.toNat r2 with
        | some (es, _) => some (n, es)
        | none => none
      | none => none
    | none => none
  else none
theorem keyR_var {k : Key} (h : keyB k = true) (r : List Int) : keyR (keyBy k ++ r) = some (k, r) := by
  obtain ⟨h1, h2⟩ := keyB_len h
  unfold keyB at h
  simp only [Bool.and_eq_true, decide_eq_true_eq] at h
  unfold keyR keyBy varsL
  simp only [List.map_cons, List.map_nil, List.flatten_cons, List.flatten_nil, List.append_nil, List.append_assoc]
  rw [numR_var h.1.2 (by omega) (by decide)]
  simp only
  rw [textR_var (by omega) (by decide)]
  simp only
  rw [textR_var (by omega) (by decide)]
theorem keysR_var : ∀ (ks : List Key) (r : List Int), (∀ k ∈ ks, keyB k = true) → keysR ks.length ((ks.map keyBy).flatten ++ r) = some (ks, r)
  | [], r, _ => rfl
  | k :: ks, r, h => by
    simp only [List.length_cons, List.map_cons, List.flatten_cons, List.append_assoc, keysR]
    rw [keyR_var (h k List.mem_cons_self)]
    simp only
    rw [keysR_var ks r fun x hx => h x (List.mem_cons_of_mem _ hx)]
theorem entR_var {e : Ent} (h : okV e) (ho : e.own = e) (r : List Int) : entR (entBy e ++ r) = some (e, r) := by
  have hk := okV_keys h
  unfold okV entB kindB numB at h
  simp only [Bool.and_eq_true, Bool.or_eq_true, beq_iff_eq, decide_eq_true_eq] at h
  obtain ⟨⟨h1, -⟩, h2⟩ := h
  unfold entR entBy varsL
  simp only [List.map_cons, List.map_nil, List.flatten_cons, List.flatten_nil, List.append_nil, List.append_assoc]
  rw [numR_var (by omega) (by omega) (by decide)]
  simp only
  rw [numR_var (by omega) (by omega) (by decide)]
  simp only
  rw [numR_var (by omega) (by omega) (by decide)]
  simp only
  rw [numR_var (by omega) (by omega) (by decide)]
  simp only [Int.toNat_natCast]
  rw [keysR_var e.sites r hk]
  simp only
  rw [show (⟨e.kind, e.sites, e.seen, e.missed, true, 0⟩ : Ent) = e from ho]
theorem entsR_var : ∀ (es : List Ent) (r : List Int), (∀ e ∈ es, okV e ∧ e.own = e) → entsR es.length ((es.map entBy).flatten ++ r) = some (es, r)
  | [], r, _ => rfl
  | e :: es, r, h => by
    simp only [List.length_cons, List.map_cons, List.flatten_cons, List.append_assoc, entsR]
    rw [entR_var (h e List.mem_cons_self).1 (h e List.mem_cons_self).2]
    simp only
    rw [entsR_var es r fun x hx => h x (List.mem_cons_of_mem _ hx)]
theorem decA_body {n : Int} {b : List Ent} (h : validB n b = true) (ho : ∀ e ∈ b, e.own = e) : decA (bodyI n b) = some (n, b) := by
  obtain ⟨b1, b2, b3, b4, b5⟩ := valid_parts h
  unfold decA bodyI varsL
  simp only [List.map_cons, List.map_nil, List.flatten_cons, List.flatten_nil, List.append_nil, List.append_assoc]
  have e0 : ([73, 66, 76, 49] ++ (varL n ++ (varL (b.length : Int) ++ (b.map entBy).flatten)) : List Int).take 4 = magI := rfl
  rw [if_pos e0]
  have e : ([73, 66, 76, 49] ++ (varL n ++ (varL (b.length : Int) ++ (b.map entBy).flatten)) : List Int).drop 4 = varL n ++ (varL (b.length : Int) ++ (b.map entBy).flatten) := rfl
  rw [e, numR_var (by omega) (by omega) (by decide)]
  simp only
  rw [numR_var (by omega) (by omega) (by decide)]
  simp only [Int.toNat_natCast]
  have := entsR_var b [] fun e he => ⟨b3 e he, ho e he⟩
  rw [List.append_nil] at this
  rw [this]
end Go.Proofs.YtikkmcchhddfoaaGreatDoor.KM
