/- Walks: bytes of numbers. -/
import Derived.Test.YtikkmcchhddfoaaGreatDoorPq
set_option linter.all false
namespace Go.Proofs.YtikkmcchhddfoaaGreatDoor.KM
open Go
def bI (l : List Int) : List (List V) := l.map fun x => [V.int .u8 x]
theorem bI_len (l : List Int) : ∀ r ∈ bI l, r.length = 1 := by
  intro r hr
  obtain ⟨c, _, rfl⟩ := List.mem_map.1 hr
  rfl
theorem bI_row (l : List Int) : ∀ r ∈ bI l, r.all V.rowB = true := by
  intro r hr
  obtain ⟨c, _, rfl⟩ := List.mem_map.1 hr
  rfl
theorem bI_app (a b : List Int) : bI (a ++ b) = bI a ++ bI b := List.map_append ..
theorem bI_n (a : List Int) : (bI a).length = a.length := List.length_map ..
theorem bI_refs (l : List Int) : refsL (bI l).flatten = [] := refsL_row (rows_all (bI_row l))
/-! a number's bytes -/
def orB (u : Int) : Int := IntKind.u8.wrap ((BitVec.ofInt 8 (IntKind.u8.wrap u) ||| BitVec.ofInt 8 128).toNat : Int)
def sh7 (u : Int) : Int := u.fdiv (2 ^ min 7 64)
def zig0 (n : Int) : Int := IntKind.u64.wrap (IntKind.u64.wrap n * 2 ^ min 1 64)
def zig1 (n : Int) : Int := IntKind.u64.wrap ((BitVec.ofInt 64 (if IntKind.u64.signed = true then -1 else IntKind.u64.max) ^^^ BitVec.ofInt 64 (zig0 n)).toNat : Int)
def zig (n : Int) : Int := if n < 0 then zig1 n else zig0 n
def varI : Nat → Int → List Int
  | 0, u => [IntKind.u8.wrap u]
  | k + 1, u => if 128 ≤ u then orB u :: varI k (sh7 u) else [IntKind.u8.wrap u]
theorem varI_len : ∀ k u, (varI k u).length ≤ k + 1
  | 0, _ => by simp [varI]
  | k + 1, u => by
    have := varI_len k (sh7 u)
    unfold varI
    split
    · simp; omega
    · simp
theorem varI_small {k : Nat} {u : Int} (h : ¬ 128 ≤ u) : varI k u = [IntKind.u8.wrap u] := by
  cases k with
  | zero => rfl
  | succ k => unfold varI; rw [if_neg h]
def varL (n : Int) : List Int := varI 10 (zig n)
theorem u64_range (x : Int) : 0 ≤ IntKind.u64.wrap x ∧ IntKind.u64.wrap x < 18446744073709551616 := by
  have h : IntKind.u64.wrap x = x % 18446744073709551616 := by
    unfold IntKind.wrap
    rfl
  rw [h]
  omega
theorem zig_range (n : Int) : 0 ≤ zig n ∧ zig n < 128 ^ (10 + 1) := by
  unfold zig
  split
  · have := u64_range ((BitVec.ofInt 64 (if IntKind.u64.signed = true then -1 else IntKind.u64.max) ^^^ BitVec.ofInt 64 (zig0 n)).toNat : Int)
    unfold zig1
    omega
  · have := u64_range (IntKind.u64.wrap n * 2 ^ min 1 64)
    unfold zig0
    omega
theorem sh7_eq (u : Int) (h : 0 ≤ u) : sh7 u = u / 128 := by
  unfold sh7
  rw [Int.fdiv_eq_ediv_of_nonneg _ (by decide)]
  rfl
theorem sh7_range {u : Int} {k : Nat} (h0 : 0 ≤ u) (h : u < 128 ^ (k + 1 + 1)) : 0 ≤ sh7 u ∧ sh7 u < 128 ^ (k + 1) := by
  rw [sh7_eq u h0]
  have e : (128 : Int) ^ (k + 1 + 1) = 128 ^ (k + 1) * 128 := Int.pow_succ ..
  rw [e] at h
  generalize (128 : Int) ^ (k + 1) = P at h
  omega
/-- appended to a settled list that is full -/
theorem app_l1 {σ : St} {m e bytes : Nat} {y : V} {xs ys : List (List V)} (hy : srcRows σ m y = some ys) (hn : ys ≠ []) (hm : 0 < m) (hx : ∀ r ∈ xs, r.length = m) (hl : ∀ r ∈ ys, r.length = m) (hb : (xs.length + ys.length) * bytes ≤ 140737488355328) :
    appV bytes (m, e) (.lst 1 xs) y σ = some (.sl σ.length 0 0 (xs.length + ys.length) m true, σ ++ [.row (xs.flatten ++ ys.flatten) e 0 0]) := by
  have hall : (ys.all fun r => r.length == m) = true := by
    rw [List.all_eq_true]
    intro r hr
    simp [hl r hr]
  have hall2 : (xs.all fun r => r.length == m) = true := by
    rw [List.all_eq_true]
    intro r hr
    simp [hx r hr]
  have he : ys.isEmpty = false := by simpa using hn
  unfold appV
  simp only [hy, Option.bind_some]
  unfold appR
  simp only
  rw [if_pos ⟨hall, hm⟩]
  simp only [he, hb, if_true, Bool.false_eq_true, if_false, true_and]
  rw [if_pos hall2]
/-- bytes that may be added to: settled and full, or in an object -/
def RW (s : St) (w : V) (l : List Int) : Prop := (w = .lst 1 (bI l)) ∨ GW s 1 5 0 w (bI l)
theorem rw_app {s : St} {w : V} {l : List Int} (h : RW s w l) (hc : Cl s) (b : Int) (hl : l.length ≤ 100000000) : ∃ w' s', appV 1 (1, 5) w (.lst 1 [[.int .u8 b]]) s = some (w', s') ∧ GW s' 1 5 0 w' (bI (l ++ [b])) ∧ Cl s' := by
  rcases h with rfl | h
  · refine ⟨_, _, app_l1 (ys := [[.int .u8 b]]) rfl (by simp) (by omega) (bI_len l) (by simp) (by rw [bI_n]; simp; omega), .inr ⟨by simp [bI], s.length, 0, ?_, ?_, by omega⟩, cl_push hc ?_⟩
    · simp [bI]
    · rw [get_app0, bI_app]
      simp [bI]
    · have := bI_refs (l ++ [b])
      rw [bI_app, List.flatten_append] at this
      simp only [Ob.refs]
      rw [show [[V.int .u8 b]] = bI [b] from rfl, this]
      intro i hi
      cases hi
  · obtain ⟨w', s', e1, g1, l1, -, -⟩ := gw_app (bytes := 1) (y := .lst 1 (bI [b])) (ys := bI [b]) h (by omega) rfl (by omega) (bI_len l) (bI_len [b]) (by rw [bI_n, bI_n]; simp; omega)
    exact ⟨w', s', e1, by rw [bI_app]; exact g1, gw_app_cl h rfl e1 (bI_refs l) (bI_refs [b]) hc⟩
def putTail : AC := match af138.body with
  | .seq _ (.seq _ (.seq _ (.seq _ c))) => c
  | c => c
theorem eput_own (l : List Int) (n : Int) (hl : l.length ≤ 10000000) :
    ∃ u σ0, FnO TT PT 138 [.lst 1 (bI l), .int .i64 n] u σ0 ∧ (GW σ0 1 5 0 u (bI (l ++ varL n)) ∧ Cl σ0) := by
  refine fno_ex T138 rfl ?_ (fun v s h => ⟨h.2, gw_okres h.1, gw_refs h.1⟩)
  have hz := zig_range n
  have main : ∀ z, z = zig n → W TT PT [.l [0, 5] lp138_0, .b 0, .c putTail] [(0, .lst 1 (bI l)), (5, .int .u64 z)] [] (Hd fun e' σ1 => ∃ v, resV e' σ1 [AR.tmp 4] = some v ∧ GW σ1 1 5 0 v (bI (l ++ varL n)) ∧ Cl σ1) := by
    rintro _ rfl
    delta putTail af138
    dsimp only
    refine loop_w (α := Nat × Int × V × St × List Int) (fun a => a.1) (fun a => [(0, a.2.2.1), (5, .int .u64 a.2.1)]) (fun a => a.2.2.2.1)
      (fun a => 0 ≤ a.2.1 ∧ a.2.1 < 128 ^ (a.1 + 1) ∧ RW a.2.2.2.1 a.2.2.1 (l ++ a.2.2.2.2) ∧ Cl a.2.2.2.1 ∧ a.2.2.2.2 ++ varI a.1 a.2.1 = varL n ∧ a.2.2.2.2.length ≤ 100) ?_ (10, zig n, .lst 1 (bI l), [], []) ⟨hz.1, hz.2, .inl (by simp), cl_nil, rfl, by simp⟩
    rintro ⟨k, u, w, s, d⟩ ⟨h0, h1, hw, hc, hd, hdl⟩ ih
    simp only at h0 h1 hw hc hd hdl ih
    refine w_rep (by delta lp138_0; exact rfl) ?_
    cases hb : decide (128 ≤ u)
    · rw [varI_small (of_decide_eq_false hb)] at hd
      obtain ⟨w', s', e1, g1, c1⟩ := rw_app hw hc (IntKind.u8.wrap u) (by simp; omega)
      rw [List.append_assoc, hd] at g1
      simp only [go_sem, Nat.reduceEqDiff, reduceIte, Nat.reduceAdd, Nat.reduceMul, Nat.reduceLeDiff, Int.reduceLT, Int.reduceLE, Int.reduceToNat, Int.reduceAdd, Int.reduceNeg, Int.reduceEq, hb, e1]
      exact ⟨_, rfl, g1, c1⟩
    · have hb' := of_decide_eq_true hb
      cases k with
      | zero => simp at h1; omega
      | succ k =>
        rw [varI, if_pos hb'] at hd
        obtain ⟨w', s', e1, g1, c1⟩ := rw_app hw hc (orB u) (by simp; omega)
        have hr := sh7_range h0 h1
        simp only [go_sem, Nat.reduceEqDiff, reduceIte, Nat.reduceAdd, Nat.reduceMul, Nat.reduceLeDiff, Int.reduceLT, Int.reduceLE, Int.reduceToNat, Int.reduceAdd, Int.reduceNeg, Int.reduceEq, hb]
        change WX TT PT (r2 (appV 1 (1, 5) w (.lst 1 [[.int .u8 (orB u)]]) s)) _ _ _ _ _ _ _
        rw [e1]
        simp only [go_sem, Nat.reduceEqDiff, reduceIte, Nat.reduceAdd, Nat.reduceMul, Nat.reduceLeDiff, Int.reduceLT, Int.reduceLE, Int.reduceToNat, Int.reduceAdd, Int.reduceNeg, Int.reduceEq]
        refine W_keep (ih (k, sh7 u, w', s', d ++ [orB u]) (by simp) ⟨hr.1, hr.2, .inr ?_, c1, ?_, ?_⟩) rfl
        · rw [← List.append_assoc]; exact g1
        · rw [List.append_assoc]; exact hd
        · have := congrArg List.length hd
          have h3 := varI_len 10 (zig n)
          unfold varL at this
          simp at this ⊢
          omega
  simp only [go_sem, Nat.reduceEqDiff, reduceIte, Nat.reduceAdd, Nat.reduceMul, Nat.reduceLeDiff, Int.reduceLT, Int.reduceLE, Int.reduceToNat, Int.reduceAdd, Int.reduceNeg, Int.reduceEq]
  cases hn : decide (n < 0)
  · simp only [go_sem, Nat.reduceEqDiff, reduceIte, Nat.reduceAdd, Nat.reduceMul, Nat.reduceLeDiff, Int.reduceLT, Int.reduceLE, Int.reduceToNat, Int.reduceAdd, Int.reduceNeg, Int.reduceEq]
    exact main _ (by unfold zig; rw [if_neg (of_decide_eq_false hn)]; rfl)
  · simp only [go_sem, Nat.reduceEqDiff, reduceIte, Nat.reduceAdd, Nat.reduceMul, Nat.reduceLeDiff, Int.reduceLT, Int.reduceLE, Int.reduceToNat, Int.reduceAdd, Int.reduceNeg, Int.reduceEq]
    exact main _ (by unfold zig; rw [if_pos (of_decide_eq_true hn)]; rfl)
theorem slc_full (t : Nat) (xs : List (List V)) : slcV 1 (.lst t xs) none (some (.int .i64 (xs.length : Int))) (some (.int .i64 (xs.length : Int))) = some (.lst 1 xs) := by
  simp [slcV, boundV]
theorem epi_own (z : Bool) (t : Nat) (l : List Int) (n : Int) (hl : l.length ≤ 10000000) (hn : l ≠ []) :
    ∃ u σ0, FnO TT PT 87 [SL z t (bI l), .int .i64 n] u σ0 ∧ (GW σ0 1 5 0 u (bI (l ++ varL n)) ∧ Cl σ0) := by
  obtain ⟨u, σ0, ⟨F, f1, f2, f3, f4⟩, g, c⟩ := eput_own l n hl
  have hne : bI l ≠ [] := by simpa [bI] using hn
  rw [sl_ne2 hne]
  refine ⟨u, σ0, fno_all T87 rfl ?_ (gw_refs g) (gw_okres g) c, g, c⟩
  simp only [go_sem, Nat.reduceEqDiff, reduceIte, Nat.reduceAdd, Nat.reduceMul, Nat.reduceLeDiff, Int.reduceLT, Int.reduceLE, Int.reduceToNat, Int.reduceAdd, Int.reduceNeg, Int.reduceEq, slc_full]
  refine wx_any ⟨F, f1, f3, f4⟩ ?_
  simp only [go_sem, Nat.reduceEqDiff, reduceIte, Nat.reduceAdd, Nat.reduceMul, Nat.reduceLeDiff, Int.reduceLT, Int.reduceLE, Int.reduceToNat, Int.reduceAdd, Int.reduceNeg, Int.reduceEq]
  exact ⟨rfl, rfl⟩
def rputTail : AC := match af75.body with
  | .seq _ (.seq _ (.seq _ (.seq _ (.seq _ c)))) => c
  | c => c
theorem rpi_own (z : Bool) (t : Nat) (l : List Int) (n : Int) (hl : l.length ≤ 10000000) (hn : l ≠ []) :
    ∃ u σ0, FnO TT PT 75 [SL z t (bI l), .int .i64 n] u σ0 ∧ (GW σ0 1 5 0 u (bI (l ++ varL n)) ∧ Cl σ0) := by
  have hne : bI l ≠ [] := by simpa [bI] using hn
  rw [sl_ne2 hne]
  refine fno_ex T75 rfl ?_ (fun v s h => ⟨h.2, gw_okres h.1, gw_refs h.1⟩)
  have hz := zig_range n
  have ha := app_e1 (σ := []) (m := 1) (e := 5) (bytes := 1) (y := .lst t (bI l)) (ys := bI l) rfl hne (by omega) (bI_len l) (by rw [bI_n]; omega)
  have g0 : GW [.row (bI l).flatten 5 0 0] 1 5 0 (.sl 0 0 0 (bI l).length 1 true) (bI l) := .inr ⟨hne, 0, 0, rfl, rfl, Nat.le_refl _⟩
  have c0 : Cl [.row (bI l).flatten 5 0 0] := fun o ho i hi => by
    rw [List.mem_singleton.1 ho] at hi
    simp [Ob.refs, bI_refs] at hi
  simp only [List.length_nil, List.nil_append] at ha
  have main : ∀ z, z = zig n → W TT PT [.l [5, 6] lp75_0, .b 0, .c rputTail] [(5, .int .u64 z), (6, .sl 0 0 0 (bI l).length 1 true)] [.row (bI l).flatten 5 0 0] (Hd fun e' σ1 => ∃ v, resV e' σ1 [AR.tmp 4] = some v ∧ GW σ1 1 5 0 v (bI (l ++ varL n)) ∧ Cl σ1) := by
    rintro _ rfl
    delta rputTail af75
    dsimp only
    refine loop_w (α := Nat × Int × V × St × List Int) (fun a => a.1) (fun a => [(5, .int .u64 a.2.1), (6, a.2.2.1)]) (fun a => a.2.2.2.1)
      (fun a => 0 ≤ a.2.1 ∧ a.2.1 < 128 ^ (a.1 + 1) ∧ RW a.2.2.2.1 a.2.2.1 (l ++ a.2.2.2.2) ∧ Cl a.2.2.2.1 ∧ a.2.2.2.2 ++ varI a.1 a.2.1 = varL n ∧ a.2.2.2.2.length ≤ 100) ?_ (10, zig n, .sl 0 0 0 (bI l).length 1 true, [.row (bI l).flatten 5 0 0], []) ⟨hz.1, hz.2, .inr (by simpa using g0), c0, rfl, by simp⟩
    rintro ⟨k, u, w, s, d⟩ ⟨h0, h1, hw, hc, hd, hdl⟩ ih
    simp only at h0 h1 hw hc hd hdl ih
    refine w_rep (by delta lp75_0; exact rfl) ?_
    cases hb : decide (128 ≤ u)
    · rw [varI_small (of_decide_eq_false hb)] at hd
      obtain ⟨w', s', e1, g1, c1⟩ := rw_app hw hc (IntKind.u8.wrap u) (by simp; omega)
      rw [List.append_assoc, hd] at g1
      simp only [go_sem, Nat.reduceEqDiff, reduceIte, Nat.reduceAdd, Nat.reduceMul, Nat.reduceLeDiff, Int.reduceLT, Int.reduceLE, Int.reduceToNat, Int.reduceAdd, Int.reduceNeg, Int.reduceEq, hb, e1]
      exact ⟨_, rfl, g1, c1⟩
    · have hb' := of_decide_eq_true hb
      cases k with
      | zero => simp at h1; omega
      | succ k =>
        rw [varI, if_pos hb'] at hd
        obtain ⟨w', s', e1, g1, c1⟩ := rw_app hw hc (orB u) (by simp; omega)
        have hr := sh7_range h0 h1
        simp only [go_sem, Nat.reduceEqDiff, reduceIte, Nat.reduceAdd, Nat.reduceMul, Nat.reduceLeDiff, Int.reduceLT, Int.reduceLE, Int.reduceToNat, Int.reduceAdd, Int.reduceNeg, Int.reduceEq, hb]
        change WX TT PT (r2 (appV 1 (1, 5) w (.lst 1 [[.int .u8 (orB u)]]) s)) _ _ _ _ _ _ _
        rw [e1]
        simp only [go_sem, Nat.reduceEqDiff, reduceIte, Nat.reduceAdd, Nat.reduceMul, Nat.reduceLeDiff, Int.reduceLT, Int.reduceLE, Int.reduceToNat, Int.reduceAdd, Int.reduceNeg, Int.reduceEq]
        refine W_keep (ih (k, sh7 u, w', s', d ++ [orB u]) (by simp) ⟨hr.1, hr.2, .inr ?_, c1, ?_, ?_⟩) rfl
        · rw [← List.append_assoc]; exact g1
        · rw [List.append_assoc]; exact hd
        · have := congrArg List.length hd
          have h3 := varI_len 10 (zig n)
          unfold varL at this
          simp at this ⊢
          omega
  simp only [go_sem, Nat.reduceEqDiff, reduceIte, Nat.reduceAdd, Nat.reduceMul, Nat.reduceLeDiff, Int.reduceLT, Int.reduceLE, Int.reduceToNat, Int.reduceAdd, Int.reduceNeg, Int.reduceEq]
  cases hn : decide (n < 0)
  · simp only [go_sem, Nat.reduceEqDiff, reduceIte, Nat.reduceAdd, Nat.reduceMul, Nat.reduceLeDiff, Int.reduceLT, Int.reduceLE, Int.reduceToNat, Int.reduceAdd, Int.reduceNeg, Int.reduceEq, ha]
    exact main _ (by unfold zig; rw [if_neg (of_decide_eq_false hn)]; rfl)
  · simp only [go_sem, Nat.reduceEqDiff, reduceIte, Nat.reduceAdd, Nat.reduceMul, Nat.reduceLeDiff, Int.reduceLT, Int.reduceLE, Int.reduceToNat, Int.reduceAdd, Int.reduceNeg, Int.reduceEq, ha]
    exact main _ (by unfold zig; rw [if_pos (of_decide_eq_true hn)]; rfl)
/-! sums -/
def and1 (c : Int) : Int := IntKind.u32.wrap ((BitVec.ofInt 32 c &&& BitVec.ofInt 32 1).toNat : Int)
def shr1 (c : Int) : Int := c.fdiv (2 ^ min 1 32)
def xorP (c : Int) : Int := IntKind.u32.wrap ((BitVec.ofInt 32 c ^^^ BitVec.ofInt 32 3988292384).toNat : Int)
def bitI (c : Int) : Int := if and1 c = 0 then shr1 c else xorP (shr1 c)
def bitsI : Nat → Int → Int
  | 0, c => c
  | k + 1, c => bitsI k (bitI c)
def mixI (c x : Int) : Int := IntKind.u32.wrap ((BitVec.ofInt 32 c ^^^ BitVec.ofInt 32 (IntKind.u32.wrap x)).toNat : Int)
def stepI (c x : Int) : Int := bitsI 8 (mixI c x)
def notI (c : Int) : Int := IntKind.u32.wrap ((BitVec.ofInt 32 c ^^^ BitVec.ofInt 32 4294967295).toNat : Int)
def sumI (l : List Int) : Int := notI (l.foldl stepI 4294967295)
theorem and1_01 (c : Int) : and1 c = 0 ∨ and1 c = 1 := by
  have h : (BitVec.ofInt 32 c &&& BitVec.ofInt 32 1).toNat = (BitVec.ofInt 32 c).toNat % 2 := by
    rw [BitVec.toNat_and]
    show (BitVec.ofInt 32 c).toNat &&& 1 = _
    exact Nat.and_one_is_mod _
  unfold and1
  rw [h]
  have : (BitVec.ofInt 32 c).toNat % 2 = 0 ∨ (BitVec.ofInt 32 c).toNat % 2 = 1 := by omega
  rcases this with h | h <;> rw [h]
  · exact .inl rfl
  · exact .inr rfl
theorem bI_get {l : List Int} {i : Nat} {x : Int} (h : l[i]? = some x) : (bI l)[i]? = some [.int .u8 x] := by
  unfold bI
  rw [List.getElem?_map, h]
  rfl
theorem esum_fn (z : Bool) (t : Nat) (l : List Int) (hl : l.length ≤ 1000000000) : Fn TT PT 119 [SL z t (bI l)] (.int .u32 (sumI l)) := by
  refine Fn_go T119 rfl ?_
  simp only [go_sem, Nat.reduceEqDiff, reduceIte, Nat.reduceAdd, Nat.reduceMul, Nat.reduceLeDiff, Int.reduceLT, Int.reduceLE, Int.reduceToNat, Int.reduceAdd, Int.reduceNeg, Int.reduceEq, bI_n]
  refine loop_w (α := Nat × Int) (fun a => l.length - a.1) (fun a => [(3, .int .u32 a.2), (7, SL z t (bI l)), (8, .int .i64 l.length), (9, .int .i64 a.1)]) (fun _ => []) (fun a => a.1 ≤ l.length ∧ (l.drop a.1).foldl stepI a.2 = l.foldl stepI 4294967295) ?_ (0, 4294967295) ⟨by simp, rfl⟩
  rintro ⟨i, c⟩ ⟨hi, hc⟩ ih
  simp only at hi hc ih
  refine w_rep (by delta lp119_1; exact rfl) ?_
  rcases Nat.lt_or_ge i l.length with h | h
  · obtain ⟨x, hx, hd, -⟩ := at_some h
    rw [hd, List.foldl_cons] at hc
    simp only [go_sem, Nat.reduceEqDiff, reduceIte, Nat.reduceAdd, Nat.reduceMul, Nat.reduceLeDiff, Int.reduceLT, Int.reduceLE, Int.reduceToNat, Int.reduceAdd, Int.reduceNeg, Int.reduceEq, lt_t h, bI_get hx]
    refine loop_w (α := Nat × Int) (fun a => 8 - a.1) (fun a => [(3, .int .u32 a.2), (7, SL z t (bI l)), (8, .int .i64 l.length), (9, .int .i64 i), (17, .int .i64 a.1)]) (fun _ => []) (fun a => a.1 ≤ 8 ∧ bitsI (8 - a.1) a.2 = stepI c x) ?_ (0, mixI c x) ⟨by simp, rfl⟩
    rintro ⟨j, b⟩ ⟨hj, hb⟩ ih2
    simp only at hj hb ih2
    refine w_rep (by delta lp119_0; exact rfl) ?_
    rcases Nat.lt_or_ge j 8 with h8 | h8
    · have hlt : decide ((j : Int) < 8) = true := by simp; omega
      obtain ⟨k, hk⟩ : ∃ k, 8 - j = k + 1 := ⟨7 - j, by omega⟩
      rw [hk, bitsI] at hb
      have hk2 : 8 - (j + 1) = k := by omega
      simp only [go_sem, Nat.reduceEqDiff, reduceIte, Nat.reduceAdd, Nat.reduceMul, Nat.reduceLeDiff, Int.reduceLT, Int.reduceLE, Int.reduceToNat, Int.reduceAdd, Int.reduceNeg, Int.reduceEq, hlt]
      refine wc_if (fun h1 => ?_) (fun h1 => ?_)
      · have h1' : (and1 b != 0) = true := h1
        have hbit : bitI b = xorP (shr1 b) := by unfold bitI; rw [if_neg (by simpa using h1')]
        rw [hbit] at hb
        simp only [go_sem, Nat.reduceEqDiff, reduceIte, Nat.reduceAdd, Nat.reduceMul, Nat.reduceLeDiff, Int.reduceLT, Int.reduceLE, Int.reduceToNat, Int.reduceAdd, Int.reduceNeg, Int.reduceEq, inc64 (show j < 9223372036854775807 by omega)]
        exact W_keep (ih2 (j + 1, xorP (shr1 b)) (by simp; omega) ⟨by simp; omega, by simp only; rw [hk2]; exact hb⟩) rfl
      · have h1' : (and1 b != 0) = false := h1
        have hbit : bitI b = shr1 b := by unfold bitI; rw [if_pos (by simpa using h1')]
        rw [hbit] at hb
        simp only [go_sem, Nat.reduceEqDiff, reduceIte, Nat.reduceAdd, Nat.reduceMul, Nat.reduceLeDiff, Int.reduceLT, Int.reduceLE, Int.reduceToNat, Int.reduceAdd, Int.reduceNeg, Int.reduceEq, inc64 (show j < 9223372036854775807 by omega)]
        exact W_keep (ih2 (j + 1, shr1 b) (by simp; omega) ⟨by simp; omega, by simp only; rw [hk2]; exact hb⟩) rfl
    · obtain rfl : j = 8 := by omega
      have hlt : decide (((8 : Nat) : Int) < 8) = false := by decide
      have hb : b = stepI c x := hb
      simp only [go_sem, Nat.reduceEqDiff, reduceIte, Nat.reduceAdd, Nat.reduceMul, Nat.reduceLeDiff, Int.reduceLT, Int.reduceLE, Int.reduceToNat, Int.reduceAdd, Int.reduceNeg, Int.reduceEq, hlt, inc64 (show i < 9223372036854775807 by omega)]
      rw [hb]
      exact W_keep (ih (i + 1, stepI c x) (by simp; omega) ⟨by simp; omega, hc⟩) rfl
  · rw [List.drop_eq_nil_of_le h] at hc
    have hc : c = l.foldl stepI 4294967295 := hc
    simp only [go_sem, Nat.reduceEqDiff, reduceIte, Nat.reduceAdd, Nat.reduceMul, Nat.reduceLeDiff, Int.reduceLT, Int.reduceLE, Int.reduceToNat, Int.reduceAdd, Int.reduceNeg, Int.reduceEq, lt_f h]
    refine fr_eq rfl ?_
    unfold sumI
    rw [← hc]
    congr 1
    show IntKind.u32.wrap ((BitVec.ofInt 32 4294967295 ^^^ BitVec.ofInt 32 c).toNat : Int) = notI c
    unfold notI
    rw [BitVec.xor_comm]
theorem rsum_fn (z : Bool) (t : Nat) (l : List Int) (hl : l.length ≤ 1000000000) : Fn TT PT 35 [SL z t (bI l)] (.int .u32 (sumI l)) := by
  refine Fn_go T35 rfl ?_
  simp only [go_sem, Nat.reduceEqDiff, reduceIte, Nat.reduceAdd, Nat.reduceMul, Nat.reduceLeDiff, Int.reduceLT, Int.reduceLE, Int.reduceToNat, Int.reduceAdd, Int.reduceNeg, Int.reduceEq]
  refine loop_w (α := Nat × Int) (fun a => l.length - a.1) (fun a => [(0, SL z t (bI l)), (3, .int .u32 a.2), (4, .int .i64 a.1)]) (fun _ => []) (fun a => a.1 ≤ l.length ∧ (l.drop a.1).foldl stepI a.2 = l.foldl stepI 4294967295) ?_ (0, 4294967295) ⟨by simp, rfl⟩
  rintro ⟨i, c⟩ ⟨hi, hc⟩ ih
  simp only at hi hc ih
  refine w_rep (by delta lp35_1; exact rfl) ?_
  rcases Nat.lt_or_ge i l.length with h | h
  · obtain ⟨x, hx, hd, -⟩ := at_some h
    rw [hd, List.foldl_cons] at hc
    simp only [go_sem, Nat.reduceEqDiff, reduceIte, Nat.reduceAdd, Nat.reduceMul, Nat.reduceLeDiff, Int.reduceLT, Int.reduceLE, Int.reduceToNat, Int.reduceAdd, Int.reduceNeg, Int.reduceEq, lt_t h, bI_n, bI_get hx]
    refine loop_w (α := Nat × Int) (fun a => 8 - a.1) (fun a => [(0, SL z t (bI l)), (3, .int .u32 a.2), (4, .int .i64 i), (5, .int .i64 a.1)]) (fun _ => []) (fun a => a.1 ≤ 8 ∧ bitsI (8 - a.1) a.2 = stepI c x) ?_ (0, mixI c x) ⟨by simp, rfl⟩
    rintro ⟨j, b⟩ ⟨hj, hb⟩ ih2
    simp only at hj hb ih2
    refine w_rep (by delta lp35_0; exact rfl) ?_
    rcases Nat.lt_or_ge j 8 with h8 | h8
    · have hlt : decide ((j : Int) < 8) = true := by simp; omega
      obtain ⟨k, hk⟩ : ∃ k, 8 - j = k + 1 := ⟨7 - j, by omega⟩
      rw [hk, bitsI] at hb
      have hk2 : 8 - (j + 1) = k := by omega
      simp only [go_sem, Nat.reduceEqDiff, reduceIte, Nat.reduceAdd, Nat.reduceMul, Nat.reduceLeDiff, Int.reduceLT, Int.reduceLE, Int.reduceToNat, Int.reduceAdd, Int.reduceNeg, Int.reduceEq, hlt]
      refine wc_if (fun h1 => ?_) (fun h1 => ?_)
      · have h1' : (and1 b == 1) = true := h1
        have hbit : bitI b = xorP (shr1 b) := by unfold bitI; rw [if_neg (by rw [eq_of_beq h1']; decide)]
        rw [hbit] at hb
        simp only [go_sem, Nat.reduceEqDiff, reduceIte, Nat.reduceAdd, Nat.reduceMul, Nat.reduceLeDiff, Int.reduceLT, Int.reduceLE, Int.reduceToNat, Int.reduceAdd, Int.reduceNeg, Int.reduceEq, inc64 (show j < 9223372036854775807 by omega)]
        exact W_keep (ih2 (j + 1, xorP (shr1 b)) (by simp; omega) ⟨by simp; omega, by simp only; rw [hk2]; exact hb⟩) rfl
      · have h1' : (and1 b == 1) = false := h1
        have hbit : bitI b = shr1 b := by unfold bitI; rw [if_pos ((and1_01 b).resolve_right (by simpa using h1'))]
        rw [hbit] at hb
        simp only [go_sem, Nat.reduceEqDiff, reduceIte, Nat.reduceAdd, Nat.reduceMul, Nat.reduceLeDiff, Int.reduceLT, Int.reduceLE, Int.reduceToNat, Int.reduceAdd, Int.reduceNeg, Int.reduceEq, inc64 (show j < 9223372036854775807 by omega)]
        exact W_keep (ih2 (j + 1, shr1 b) (by simp; omega) ⟨by simp; omega, by simp only; rw [hk2]; exact hb⟩) rfl
    · obtain rfl : j = 8 := by omega
      have hlt : decide (((8 : Nat) : Int) < 8) = false := by decide
      have hb : b = stepI c x := hb
      simp only [go_sem, Nat.reduceEqDiff, reduceIte, Nat.reduceAdd, Nat.reduceMul, Nat.reduceLeDiff, Int.reduceLT, Int.reduceLE, Int.reduceToNat, Int.reduceAdd, Int.reduceNeg, Int.reduceEq, hlt, inc64 (show i < 9223372036854775807 by omega)]
      rw [hb]
      exact W_keep (ih (i + 1, stepI c x) (by simp; omega) ⟨by simp; omega, hc⟩) rfl
  · rw [List.drop_eq_nil_of_le h] at hc
    have hc : c = l.foldl stepI 4294967295 := hc
    simp only [go_sem, Nat.reduceEqDiff, reduceIte, Nat.reduceAdd, Nat.reduceMul, Nat.reduceLeDiff, Int.reduceLT, Int.reduceLE, Int.reduceToNat, Int.reduceAdd, Int.reduceNeg, Int.reduceEq, lt_f h, bI_n]
    refine fr_eq rfl ?_
    unfold sumI
    rw [← hc]
    rfl
end Go.Proofs.YtikkmcchhddfoaaGreatDoor.KM
