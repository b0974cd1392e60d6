/- Walks: comparisons, keys. -/
import Derived.Test.YtlehfgdhebapeaaGreatDoorNu
import Derived.Test.YtlehfgdhebapeaaGreatDoorA5
set_option linter.all false
namespace Go.Proofs.YtlehfgdhebapeaaGreatDoor.KM
open Go
theorem nan_fn (a : Int) : Fn TT PT 219 [.int .i64 a] (.bool false) := by
  refine Fn_go T219 rfl ?_
  simp only [go_sem, Nat.reduceEqDiff, reduceIte, Nat.reduceAdd, Nat.reduceMul, Nat.reduceLeDiff, Int.reduceLT, Int.reduceLE, Int.reduceToNat, Int.reduceAdd, Int.reduceNeg, Int.reduceEq]
  exact fr_eq rfl (by simp)
theorem cmpI_fn (a b : Int) : Fn TT PT 187 [.int .i64 a, .int .i64 b] (.int .i64 (Lib.compareInt a b)) := by
  refine Fn_go T187 rfl ?_
  simp only [go_sem, Nat.reduceEqDiff, reduceIte, Nat.reduceAdd, Nat.reduceMul, Nat.reduceLeDiff, Int.reduceLT, Int.reduceLE, Int.reduceToNat, Int.reduceAdd, Int.reduceNeg, Int.reduceEq]
  first | refine wx_fn (nan_fn a) (by first | rfl | simp only [go_sem]) ?_ | refine wgx_fn (nan_fn a) (by first | rfl | simp only [go_sem]) ?_
  simp only [go_sem, Nat.reduceEqDiff, reduceIte, Nat.reduceAdd, Nat.reduceMul, Nat.reduceLeDiff, Int.reduceLT, Int.reduceLE, Int.reduceToNat, Int.reduceAdd, Int.reduceNeg, Int.reduceEq]
  first | refine wx_fn (nan_fn b) (by first | rfl | simp only [go_sem]) ?_ | refine wgx_fn (nan_fn b) (by first | rfl | simp only [go_sem]) ?_
  simp only [go_sem, Nat.reduceEqDiff, reduceIte, Nat.reduceAdd, Nat.reduceMul, Nat.reduceLeDiff, Int.reduceLT, Int.reduceLE, Int.reduceToNat, Int.reduceAdd, Int.reduceNeg, Int.reduceEq]
  refine wc_if (fun h => ?_) (fun h => ?_)
  · simp only [go_sem, Nat.reduceEqDiff, reduceIte, Nat.reduceAdd, Nat.reduceMul, Nat.reduceLeDiff, Int.reduceLT, Int.reduceLE, Int.reduceToNat, Int.reduceAdd, Int.reduceNeg, Int.reduceEq, h]
    refine fr_eq rfl ?_
    simp at h
    simp [Lib.compareInt, h]
  · simp only [go_sem, Nat.reduceEqDiff, reduceIte, Nat.reduceAdd, Nat.reduceMul, Nat.reduceLeDiff, Int.reduceLT, Int.reduceLE, Int.reduceToNat, Int.reduceAdd, Int.reduceNeg, Int.reduceEq, h]
    refine wc_if (fun h => ?_) (fun h => ?_)
    · simp only [go_sem, Nat.reduceEqDiff, reduceIte, Nat.reduceAdd, Nat.reduceMul, Nat.reduceLeDiff, Int.reduceLT, Int.reduceLE, Int.reduceToNat, Int.reduceAdd, Int.reduceNeg, Int.reduceEq, h]
      refine fr_eq rfl ?_
      simp at h
      rename_i h1
      simp at h1
      rw [Lib.compareInt, if_neg (by omega), if_pos (by omega)]
    · simp only [go_sem, Nat.reduceEqDiff, reduceIte, Nat.reduceAdd, Nat.reduceMul, Nat.reduceLeDiff, Int.reduceLT, Int.reduceLE, Int.reduceToNat, Int.reduceAdd, Int.reduceNeg, Int.reduceEq, h]
      refine fr_eq rfl ?_
      simp at h
      rename_i h1
      simp at h1
      rw [Lib.compareInt, if_neg (by omega), if_neg (by omega)]
/-- cmp.Or -/
def orL : List Int → Int
  | [] => 0
  | a :: r => if a ≠ 0 then a else orL r
theorem orL_fn (t : Nat) (xs : List Int) (hn : xs.length < 9223372036854775807) : Fn TT PT 186 [.lst t (xs.map fun a => [.int .i64 a])] (.int .i64 (orL xs)) := by
  refine Fn_go T186 rfl ?_
  simp only [go_sem, Nat.reduceEqDiff, reduceIte, Nat.reduceAdd, Nat.reduceMul, Nat.reduceLeDiff, Int.reduceLT, Int.reduceLE, Int.reduceToNat, Int.reduceAdd, Int.reduceNeg, Int.reduceEq, List.length_map]
  refine loop_w (fun i => xs.length - i) (fun i : Nat => [(3, .int .i64 0), (6, .lst t (xs.map fun a => [.int .i64 a])), (7, .int .i64 xs.length), (8, .int .i64 i)]) (fun _ => []) (fun i => i ≤ xs.length ∧ orL xs = orL (xs.drop i)) ?_ 0 ⟨by omega, rfl⟩
  rintro i ⟨hi, ho⟩ ih
  refine w_rep (by delta lp186_0; exact rfl) ?_
  rcases Nat.lt_or_ge i xs.length with h | h
  · obtain ⟨x, hx, hd, -⟩ := at_some h
    rw [hd, orL] at ho
    simp only [go_sem, Nat.reduceEqDiff, reduceIte, Nat.reduceAdd, Nat.reduceMul, Nat.reduceLeDiff, Int.reduceLT, Int.reduceLE, Int.reduceToNat, Int.reduceAdd, Int.reduceNeg, Int.reduceEq, lt_t h, hx, List.getElem?_map]
    refine wc_if (fun h2 => ?_) (fun h2 => ?_)
    · simp only [go_sem, Nat.reduceEqDiff, reduceIte, Nat.reduceAdd, Nat.reduceMul, Nat.reduceLeDiff, Int.reduceLT, Int.reduceLE, Int.reduceToNat, Int.reduceAdd, Int.reduceNeg, Int.reduceEq]
      refine fr_eq rfl ?_
      rw [ho, if_pos (by simpa using h2)]
    · simp only [go_sem, Nat.reduceEqDiff, reduceIte, Nat.reduceAdd, Nat.reduceMul, Nat.reduceLeDiff, Int.reduceLT, Int.reduceLE, Int.reduceToNat, Int.reduceAdd, Int.reduceNeg, Int.reduceEq, inc64 (Nat.lt_trans h hn)]
      refine W_keep (ih (i + 1) (by omega) ⟨by omega, ?_⟩) rfl
      rw [ho, if_neg (by simpa using h2)]
  · simp only [go_sem, Nat.reduceEqDiff, reduceIte, Nat.reduceAdd, Nat.reduceMul, Nat.reduceLeDiff, Int.reduceLT, Int.reduceLE, Int.reduceToNat, Int.reduceAdd, Int.reduceNeg, Int.reduceEq, lt_f h]
    refine fr_eq rfl ?_
    rw [ho, List.drop_eq_nil_of_le h]
    rfl
/-- ref39.Compare of lists of one number -/
theorem rcmp_fn (t u : Nat) (a b : Int) : Fn TT PT 154 [.lst t [[.int .i64 a]], .lst u [[.int .i64 b]]] (.int .i64 (Lib.compareInt a b)) := by
  refine Fn_go T154 rfl ?_
  simp only [go_sem, Nat.reduceEqDiff, reduceIte, Nat.reduceAdd, Nat.reduceMul, Nat.reduceLeDiff, Int.reduceLT, Int.reduceLE, Int.reduceToNat, Int.reduceAdd, Int.reduceNeg, Int.reduceEq]
  refine w_rep (by delta lp154_0; exact rfl) ?_
  simp only [go_sem, Nat.reduceEqDiff, reduceIte, Nat.reduceAdd, Nat.reduceMul, Nat.reduceLeDiff, Int.reduceLT, Int.reduceLE, Int.reduceToNat, Int.reduceAdd, Int.reduceNeg, Int.reduceEq]
  refine w_drw (by kernel_rfl) ?_
  simp only [go_sem, Nat.reduceEqDiff, reduceIte, Nat.reduceAdd, Nat.reduceMul, Nat.reduceLeDiff, Int.reduceLT, Int.reduceLE, Int.reduceToNat, Int.reduceAdd, Int.reduceNeg, Int.reduceEq]
  refine wc_if (fun h1 => ?_) (fun h1 => ?_)
  · simp only [go_sem, Nat.reduceEqDiff, reduceIte, Nat.reduceAdd, Nat.reduceMul, Nat.reduceLeDiff, Int.reduceLT, Int.reduceLE, Int.reduceToNat, Int.reduceAdd, Int.reduceNeg, Int.reduceEq]
    refine w_drw (by kernel_rfl) ?_
    simp only [go_sem, Nat.reduceEqDiff, reduceIte, Nat.reduceAdd, Nat.reduceMul, Nat.reduceLeDiff, Int.reduceLT, Int.reduceLE, Int.reduceToNat, Int.reduceAdd, Int.reduceNeg, Int.reduceEq]
    refine wc_if (fun h2 => ?_) (fun h2 => ?_)
    · simp only [go_sem, Nat.reduceEqDiff, reduceIte, Nat.reduceAdd, Nat.reduceMul, Nat.reduceLeDiff, Int.reduceLT, Int.reduceLE, Int.reduceToNat, Int.reduceAdd, Int.reduceNeg, Int.reduceEq]
      simp at h2
      exact fr_eq rfl (by simp [Lib.compareInt, h2])
    · simp only [go_sem, Nat.reduceEqDiff, reduceIte, Nat.reduceAdd, Nat.reduceMul, Nat.reduceLeDiff, Int.reduceLT, Int.reduceLE, Int.reduceToNat, Int.reduceAdd, Int.reduceNeg, Int.reduceEq]
      simp at h1 h2
      exact fr_eq rfl (by rw [Lib.compareInt, if_neg (by omega), if_pos (by omega)])
  · simp only [go_sem, Nat.reduceEqDiff, reduceIte, Nat.reduceAdd, Nat.reduceMul, Nat.reduceLeDiff, Int.reduceLT, Int.reduceLE, Int.reduceToNat, Int.reduceAdd, Int.reduceNeg, Int.reduceEq]
    refine w_rep (by delta lp154_0; exact rfl) ?_
    simp only [go_sem, Nat.reduceEqDiff, reduceIte, Nat.reduceAdd, Nat.reduceMul, Nat.reduceLeDiff, Int.reduceLT, Int.reduceLE, Int.reduceToNat, Int.reduceAdd, Int.reduceNeg, Int.reduceEq]
    simp at h1
    exact fr_eq rfl (by rw [Lib.compareInt, if_neg (by omega), if_neg (by omega)])
/-! keys -/
abbrev Key := List UInt8 × List UInt8 × Int
def krow (k : Key) : List V := [.str k.1, .str k.2.1, .int .i64 k.2.2]
def kcmp (a b : Key) : Int := if a.1 ≠ b.1 then Lib.compareBytes a.1 b.1 else if a.2.1 ≠ b.2.1 then Lib.compareBytes a.2.1 b.2.1 else Lib.compareInt a.2.2 b.2.2
theorem ckeys_fn (a b : Key) : Fn TT PT 155 [.agg (krow a), .agg (krow b)] (.int .i64 (kcmp a b)) := by
  refine Fn_go T155 rfl ?_
  unfold krow
  simp only [go_sem, Nat.reduceEqDiff, reduceIte, Nat.reduceAdd, Nat.reduceMul, Nat.reduceLeDiff, Int.reduceLT, Int.reduceLE, Int.reduceToNat, Int.reduceAdd, Int.reduceNeg, Int.reduceEq]
  refine wc_if (fun h1 => ?_) (fun h1 => ?_)
  · simp only [go_sem, Nat.reduceEqDiff, reduceIte, Nat.reduceAdd, Nat.reduceMul, Nat.reduceLeDiff, Int.reduceLT, Int.reduceLE, Int.reduceToNat, Int.reduceAdd, Int.reduceNeg, Int.reduceEq]
    first | refine wx_pr P194 (by first | rfl | simp only [go_sem]) (by rfl) ?_ | refine wgx_pr P194 (by first | rfl | simp only [go_sem]) (by rfl) ?_
    simp only [go_sem, Nat.reduceEqDiff, reduceIte, Nat.reduceAdd, Nat.reduceMul, Nat.reduceLeDiff, Int.reduceLT, Int.reduceLE, Int.reduceToNat, Int.reduceAdd, Int.reduceNeg, Int.reduceEq]
    refine fr_eq rfl ?_
    simp at h1
    simp [kcmp, h1]
  · simp only [go_sem, Nat.reduceEqDiff, reduceIte, Nat.reduceAdd, Nat.reduceMul, Nat.reduceLeDiff, Int.reduceLT, Int.reduceLE, Int.reduceToNat, Int.reduceAdd, Int.reduceNeg, Int.reduceEq]
    refine wc_if (fun h2 => ?_) (fun h2 => ?_)
    · simp only [go_sem, Nat.reduceEqDiff, reduceIte, Nat.reduceAdd, Nat.reduceMul, Nat.reduceLeDiff, Int.reduceLT, Int.reduceLE, Int.reduceToNat, Int.reduceAdd, Int.reduceNeg, Int.reduceEq]
      first | refine wx_pr P194 (by first | rfl | simp only [go_sem]) (by rfl) ?_ | refine wgx_pr P194 (by first | rfl | simp only [go_sem]) (by rfl) ?_
      simp only [go_sem, Nat.reduceEqDiff, reduceIte, Nat.reduceAdd, Nat.reduceMul, Nat.reduceLeDiff, Int.reduceLT, Int.reduceLE, Int.reduceToNat, Int.reduceAdd, Int.reduceNeg, Int.reduceEq]
      refine fr_eq rfl ?_
      simp at h1 h2
      simp [kcmp, h1, h2]
    · simp only [go_sem, Nat.reduceEqDiff, reduceIte, Nat.reduceAdd, Nat.reduceMul, Nat.reduceLeDiff, Int.reduceLT, Int.reduceLE, Int.reduceToNat, Int.reduceAdd, Int.reduceNeg, Int.reduceEq]
      first | refine wx_fn (rcmp_fn _ _ a.2.2 b.2.2) (by first | rfl | simp only [go_sem]) ?_ | refine wgx_fn (rcmp_fn _ _ a.2.2 b.2.2) (by first | rfl | simp only [go_sem]) ?_
      simp only [go_sem, Nat.reduceEqDiff, reduceIte, Nat.reduceAdd, Nat.reduceMul, Nat.reduceLeDiff, Int.reduceLT, Int.reduceLE, Int.reduceToNat, Int.reduceAdd, Int.reduceNeg, Int.reduceEq]
      refine fr_eq rfl ?_
      simp at h1 h2
      simp [kcmp, h1, h2]
theorem cb_self : ∀ l : List UInt8, Lib.compareBytes l l = 0
  | [] => rfl
  | a :: l => by
    simp [Lib.compareBytes, cb_self l]
theorem cb_zero : ∀ {a b : List UInt8}, Lib.compareBytes a b = 0 → a = b
  | [], [], _ => rfl
  | [], _ :: _, h => by simp [Lib.compareBytes] at h
  | _ :: _, [], h => by simp [Lib.compareBytes] at h
  | a :: r, b :: s, h => by
    simp only [Lib.compareBytes] at h
    split at h
    · omega
    · split at h
      · omega
      · rename_i h1 h2
        rw [cb_zero h]
        congr 1
        exact UInt8.le_antisymm (UInt8.not_lt.1 h2) (UInt8.not_lt.1 h1)
theorem or3_kcmp (a b : Key) : orL [Lib.compareBytes a.1 b.1, Lib.compareBytes a.2.1 b.2.1, Lib.compareInt a.2.2 b.2.2] = kcmp a b := by
  unfold kcmp
  simp only [orL]
  by_cases h1 : a.1 = b.1
  · rw [h1, cb_self]
    by_cases h2 : a.2.1 = b.2.1
    · rw [h2, cb_self]
      simp
      intro h; rw [h]
    · have : Lib.compareBytes a.2.1 b.2.1 ≠ 0 := fun h => h2 (cb_zero h)
      simp [h2, this]
  · have : Lib.compareBytes a.1 b.1 ≠ 0 := fun h => h1 (cb_zero h)
    simp [h1, this]
theorem bkeys_fn (a b : Key) : Fn TT PT 189 [.agg (krow a), .agg (krow b)] (.int .i64 (kcmp a b)) := by
  refine Fn_go T189 rfl ?_
  unfold krow
  simp only [go_sem, Nat.reduceEqDiff, reduceIte, Nat.reduceAdd, Nat.reduceMul, Nat.reduceLeDiff, Int.reduceLT, Int.reduceLE, Int.reduceToNat, Int.reduceAdd, Int.reduceNeg, Int.reduceEq]
  refine w_drw (by kernel_rfl) ?_
  simp only [go_sem, Nat.reduceEqDiff, reduceIte, Nat.reduceAdd, Nat.reduceMul, Nat.reduceLeDiff, Int.reduceLT, Int.reduceLE, Int.reduceToNat, Int.reduceAdd, Int.reduceNeg, Int.reduceEq]
  first | refine wx_pr P194 (by first | rfl | simp only [go_sem]) (by rfl) ?_ | refine wgx_pr P194 (by first | rfl | simp only [go_sem]) (by rfl) ?_
  simp only [go_sem, Nat.reduceEqDiff, reduceIte, Nat.reduceAdd, Nat.reduceMul, Nat.reduceLeDiff, Int.reduceLT, Int.reduceLE, Int.reduceToNat, Int.reduceAdd, Int.reduceNeg, Int.reduceEq]
  first | refine wx_pr P194 (by first | rfl | simp only [go_sem]) (by rfl) ?_ | refine wgx_pr P194 (by first | rfl | simp only [go_sem]) (by rfl) ?_
  simp only [go_sem, Nat.reduceEqDiff, reduceIte, Nat.reduceAdd, Nat.reduceMul, Nat.reduceLeDiff, Int.reduceLT, Int.reduceLE, Int.reduceToNat, Int.reduceAdd, Int.reduceNeg, Int.reduceEq]
  first | refine wx_fn (cmpI_fn a.2.2 b.2.2) (by first | rfl | simp only [go_sem]) ?_ | refine wgx_fn (cmpI_fn a.2.2 b.2.2) (by first | rfl | simp only [go_sem]) ?_
  simp only [go_sem, Nat.reduceEqDiff, reduceIte, Nat.reduceAdd, Nat.reduceMul, Nat.reduceLeDiff, Int.reduceLT, Int.reduceLE, Int.reduceToNat, Int.reduceAdd, Int.reduceNeg, Int.reduceEq]
  first | refine wx_fn (orL_fn 1 [_, _, _] (by simp)) (by first | rfl | simp only [go_sem]) ?_ | refine wgx_fn (orL_fn 1 [_, _, _] (by simp)) (by first | rfl | simp only [go_sem]) ?_
  simp only [go_sem, Nat.reduceEqDiff, reduceIte, Nat.reduceAdd, Nat.reduceMul, Nat.reduceLeDiff, Int.reduceLT, Int.reduceLE, Int.reduceToNat, Int.reduceAdd, Int.reduceNeg, Int.reduceEq]
  exact fr_eq rfl (by rw [or3_kcmp])
/-! entries -/
structure Ent where
  kind : Int
  sites : List Key
  seen : Int
  missed : Int
  z : Bool := true
  t : Nat := 0
def Ent.sl (x : Ent) : V := SL x.z x.t (x.sites.map krow)
def Ent.row (x : Ent) : List V := [.int .i64 x.kind, x.sl, .int .i64 x.seen, .int .i64 x.missed]
def lcmp : List Key → List Key → Int
  | [], [] => 0
  | [], _ :: _ => -1
  | _ :: _, [] => 1
  | a :: r, b :: s => if kcmp a b ≠ 0 then kcmp a b else lcmp r s
def ecmp (x y : Ent) : Int := if x.kind ≠ y.kind then Lib.compareInt x.kind y.kind else lcmp x.sites y.sites
theorem cent_fn (x y : Ent) (hx : x.sites.length ≤ 9223372036854775807) (hy : y.sites.length ≤ 9223372036854775807) : Fn TT PT 108 [.agg x.row, .agg y.row] (.int .i64 (ecmp x y)) := by
  refine Fn_go T108 rfl ?_
  unfold Ent.row Ent.sl
  simp only [go_sem, Nat.reduceEqDiff, reduceIte, Nat.reduceAdd, Nat.reduceMul, Nat.reduceLeDiff, Int.reduceLT, Int.reduceLE, Int.reduceToNat, Int.reduceAdd, Int.reduceNeg, Int.reduceEq]
  refine wc_if (fun h1 => ?_) (fun h1 => ?_)
  · simp only [go_sem, Nat.reduceEqDiff, reduceIte, Nat.reduceAdd, Nat.reduceMul, Nat.reduceLeDiff, Int.reduceLT, Int.reduceLE, Int.reduceToNat, Int.reduceAdd, Int.reduceNeg, Int.reduceEq]
    first | refine wx_fn (rcmp_fn _ _ _ _) (by first | rfl | simp only [go_sem]) ?_ | refine wgx_fn (rcmp_fn _ _ _ _) (by first | rfl | simp only [go_sem]) ?_
    simp only [go_sem, Nat.reduceEqDiff, reduceIte, Nat.reduceAdd, Nat.reduceMul, Nat.reduceLeDiff, Int.reduceLT, Int.reduceLE, Int.reduceToNat, Int.reduceAdd, Int.reduceNeg, Int.reduceEq]
    simp at h1
    exact fr_eq rfl (by simp [ecmp, h1])
  · simp only [go_sem, Nat.reduceEqDiff, reduceIte, Nat.reduceAdd, Nat.reduceMul, Nat.reduceLeDiff, Int.reduceLT, Int.reduceLE, Int.reduceToNat, Int.reduceAdd, Int.reduceNeg, Int.reduceEq]
    simp at h1
    have he : ecmp x y = lcmp x.sites y.sites := by simp [ecmp, h1]
    rw [he]
    refine loop_w (fun i => x.sites.length - i) (fun i : Nat => [(2, .ptr 0 0 0), (3, .ptr 1 0 0), (5, .int .i64 i)]) (fun _ => [.row [.int .i64 x.kind, SL x.z x.t (x.sites.map krow), .int .i64 x.seen, .int .i64 x.missed] 131 0 0, .row [.int .i64 y.kind, SL y.z y.t (y.sites.map krow), .int .i64 y.seen, .int .i64 y.missed] 131 0 0])
      (fun i => i ≤ x.sites.length ∧ i ≤ y.sites.length ∧ lcmp x.sites y.sites = lcmp (x.sites.drop i) (y.sites.drop i)) ?_ 0 ⟨by omega, by omega, rfl⟩
    rintro i ⟨hi, hi2, ho⟩ ih
    refine w_rep (by delta lp108_0; exact rfl) ?_
    rcases Nat.lt_or_ge i x.sites.length with h | h
    · obtain ⟨a, ha, hda, -⟩ := at_some h
      rcases Nat.lt_or_ge i y.sites.length with h2 | h2
      · obtain ⟨b, hb, hdb, -⟩ := at_some h2
        rw [hda, hdb, lcmp] at ho
        simp only [go_sem, Nat.reduceEqDiff, reduceIte, Nat.reduceAdd, Nat.reduceMul, Nat.reduceLeDiff, Int.reduceLT, Int.reduceLE, Int.reduceToNat, Int.reduceAdd, Int.reduceNeg, Int.reduceEq, lt_t h, lt_t h2, ha, hb, List.getElem?_map, List.length_map]
        refine w_drw (by kernel_rfl) ?_
        simp only [go_sem, Nat.reduceEqDiff, reduceIte, Nat.reduceAdd, Nat.reduceMul, Nat.reduceLeDiff, Int.reduceLT, Int.reduceLE, Int.reduceToNat, Int.reduceAdd, Int.reduceNeg, Int.reduceEq, lt_t h, lt_t h2, ha, hb, List.getElem?_map, List.length_map, krow]
        first | refine wx_fn (ckeys_fn a b) (by first | rfl | simp only [go_sem]) ?_ | refine wgx_fn (ckeys_fn a b) (by first | rfl | simp only [go_sem]) ?_
        simp only [go_sem, Nat.reduceEqDiff, reduceIte, Nat.reduceAdd, Nat.reduceMul, Nat.reduceLeDiff, Int.reduceLT, Int.reduceLE, Int.reduceToNat, Int.reduceAdd, Int.reduceNeg, Int.reduceEq]
        refine wc_if (fun h3 => ?_) (fun h3 => ?_)
        · simp only [go_sem, Nat.reduceEqDiff, reduceIte, Nat.reduceAdd, Nat.reduceMul, Nat.reduceLeDiff, Int.reduceLT, Int.reduceLE, Int.reduceToNat, Int.reduceAdd, Int.reduceNeg, Int.reduceEq]
          simp at h3
          exact fr_eq rfl (by rw [ho, if_pos h3])
        · simp only [go_sem, Nat.reduceEqDiff, reduceIte, Nat.reduceAdd, Nat.reduceMul, Nat.reduceLeDiff, Int.reduceLT, Int.reduceLE, Int.reduceToNat, Int.reduceAdd, Int.reduceNeg, Int.reduceEq, inc64 (Nat.lt_of_lt_of_le h hx)]
          simp at h3
          refine W_keep (ih (i + 1) (by omega) ⟨by omega, by omega, by rw [ho, if_neg (by simp [h3])]⟩) rfl
      · simp only [go_sem, Nat.reduceEqDiff, reduceIte, Nat.reduceAdd, Nat.reduceMul, Nat.reduceLeDiff, Int.reduceLT, Int.reduceLE, Int.reduceToNat, Int.reduceAdd, Int.reduceNeg, Int.reduceEq, lt_t h, lt_f h2, List.length_map]
        first | refine wx_fn (rcmp_fn _ _ _ _) (by first | rfl | simp only [go_sem]) ?_ | refine wgx_fn (rcmp_fn _ _ _ _) (by first | rfl | simp only [go_sem]) ?_
        simp only [go_sem, Nat.reduceEqDiff, reduceIte, Nat.reduceAdd, Nat.reduceMul, Nat.reduceLeDiff, Int.reduceLT, Int.reduceLE, Int.reduceToNat, Int.reduceAdd, Int.reduceNeg, Int.reduceEq]
        refine fr_eq rfl ?_
        rw [ho, hda, List.drop_eq_nil_of_le h2, lcmp, Lib.compareInt, if_neg (by omega), if_pos (by omega)]
    · simp only [go_sem, Nat.reduceEqDiff, reduceIte, Nat.reduceAdd, Nat.reduceMul, Nat.reduceLeDiff, Int.reduceLT, Int.reduceLE, Int.reduceToNat, Int.reduceAdd, Int.reduceNeg, Int.reduceEq, lt_f h, List.length_map]
      first | refine wx_fn (rcmp_fn _ _ _ _) (by first | rfl | simp only [go_sem]) ?_ | refine wgx_fn (rcmp_fn _ _ _ _) (by first | rfl | simp only [go_sem]) ?_
      simp only [go_sem, Nat.reduceEqDiff, reduceIte, Nat.reduceAdd, Nat.reduceMul, Nat.reduceLeDiff, Int.reduceLT, Int.reduceLE, Int.reduceToNat, Int.reduceAdd, Int.reduceNeg, Int.reduceEq]
      refine fr_eq rfl ?_
      rw [ho, List.drop_eq_nil_of_le h]
      rcases Nat.lt_or_ge i y.sites.length with h2 | h2
      · obtain ⟨b, hb, hdb, -⟩ := at_some h2
        rw [hdb, lcmp, Lib.compareInt, if_pos (by omega)]
      · rw [List.drop_eq_nil_of_le h2, lcmp, Lib.compareInt, if_neg (by omega), if_neg (by omega)]
theorem cf_th (x y : Ent) (hx : x.sites.length ≤ 9223372036854775807) (hy : y.sites.length ≤ 9223372036854775807) (σ : St) :
    Th TT PT 188 [x.sl, y.sl, .fn 189 [] []] σ (.int .i64 (lcmp x.sites y.sites)) σ := by
  refine Th_go T188 rfl ?_
  unfold Ent.sl
  simp only [go_sem, Nat.reduceEqDiff, reduceIte, Nat.reduceAdd, Nat.reduceMul, Nat.reduceLeDiff, Int.reduceLT, Int.reduceLE, Int.reduceToNat, Int.reduceAdd, Int.reduceNeg, Int.reduceEq, List.length_map]
  refine loop_w (α := Nat × St) (fun a => x.sites.length - a.1) (fun a => [(0, SL x.z x.t (x.sites.map krow)), (1, SL y.z y.t (y.sites.map krow)), (2, .fn 189 [] []), (11, SL x.z x.t (x.sites.map krow)), (12, .int .i64 x.sites.length), (13, .int .i64 a.1)]) (fun a => a.2)
      (fun a => a.1 ≤ x.sites.length ∧ a.1 ≤ y.sites.length ∧ lcmp x.sites y.sites = lcmp (x.sites.drop a.1) (y.sites.drop a.1) ∧ ∃ J, a.2 = σ ++ J) ?_ (0, σ) ⟨by simp, by simp, rfl, [], by simp⟩
  rintro ⟨i, s⟩ ⟨hi, hi2, ho, J, hJ⟩ ih
  simp only at hi hi2 ho hJ ih
  refine w_rep (by delta lp188_0; exact rfl) ?_
  rcases Nat.lt_or_ge i x.sites.length with h | h
  · obtain ⟨a, ha, hda, -⟩ := at_some h
    rcases Nat.lt_or_ge i y.sites.length with h2 | h2
    · obtain ⟨b, hb, hdb, -⟩ := at_some h2
      rw [hda, hdb, lcmp] at ho
      simp only [go_sem, Nat.reduceEqDiff, reduceIte, Nat.reduceAdd, Nat.reduceMul, Nat.reduceLeDiff, Int.reduceLT, Int.reduceLE, Int.reduceToNat, Int.reduceAdd, Int.reduceNeg, Int.reduceEq, lt_t h, ha, List.getElem?_map, List.length_map, krow, ge_f h2, hb]
      first | refine wx_fn (bkeys_fn a b) (by first | rfl | simp only [go_sem]) ?_ | refine wgx_fn (bkeys_fn a b) (by first | rfl | simp only [go_sem]) ?_
      simp only [go_sem, Nat.reduceEqDiff, reduceIte, Nat.reduceAdd, Nat.reduceMul, Nat.reduceLeDiff, Int.reduceLT, Int.reduceLE, Int.reduceToNat, Int.reduceAdd, Int.reduceNeg, Int.reduceEq]
      refine wc_if (fun h3 => ?_) (fun h3 => ?_)
      · simp only [go_sem, Nat.reduceEqDiff, reduceIte, Nat.reduceAdd, Nat.reduceMul, Nat.reduceLeDiff, Int.reduceLT, Int.reduceLE, Int.reduceToNat, Int.reduceAdd, Int.reduceNeg, Int.reduceEq]
        simp at h3
        rw [ho, if_pos h3, hJ, List.append_assoc]
        exact tr_flat _ rfl
      · simp only [go_sem, Nat.reduceEqDiff, reduceIte, Nat.reduceAdd, Nat.reduceMul, Nat.reduceLeDiff, Int.reduceLT, Int.reduceLE, Int.reduceToNat, Int.reduceAdd, Int.reduceNeg, Int.reduceEq, inc64 (Nat.lt_of_lt_of_le h hx)]
        simp at h3
        refine W_keep (ih (i + 1, _) (by simp; omega) ⟨by simp; omega, by simp; omega, by simp only; rw [ho, if_neg (by simp [h3])], _, by simp only; rw [hJ, List.append_assoc]⟩) rfl
    · simp only [go_sem, Nat.reduceEqDiff, reduceIte, Nat.reduceAdd, Nat.reduceMul, Nat.reduceLeDiff, Int.reduceLT, Int.reduceLE, Int.reduceToNat, Int.reduceAdd, Int.reduceNeg, Int.reduceEq, lt_t h, ha, List.getElem?_map, List.length_map, krow, ge_t h2]
      rw [ho, hda, List.drop_eq_nil_of_le h2, lcmp, hJ, List.append_assoc]
      exact tr_flat _ rfl
  · have hk : lcmp x.sites y.sites = if x.sites.length < y.sites.length then -1 else 0 := by
      rw [ho, List.drop_eq_nil_of_le h]
      rcases Nat.lt_or_ge i y.sites.length with h2 | h2
      · obtain ⟨b, hb, hdb, -⟩ := at_some h2
        rw [hdb, lcmp, if_pos (by omega)]
      · rw [List.drop_eq_nil_of_le h2, lcmp, if_neg (by omega)]
    simp only [go_sem, Nat.reduceEqDiff, reduceIte, Nat.reduceAdd, Nat.reduceMul, Nat.reduceLeDiff, Int.reduceLT, Int.reduceLE, Int.reduceToNat, Int.reduceAdd, Int.reduceNeg, Int.reduceEq, lt_f h, List.length_map]
    rw [hk, hJ]
    refine wc_if (fun h2 => ?_) (fun h2 => ?_)
    · simp only [go_sem, Nat.reduceEqDiff, reduceIte, Nat.reduceAdd, Nat.reduceMul, Nat.reduceLeDiff, Int.reduceLT, Int.reduceLE, Int.reduceToNat, Int.reduceAdd, Int.reduceNeg, Int.reduceEq]
      rw [if_pos (by simpa using h2)]
      exact tr_flat _ rfl
    · simp only [go_sem, Nat.reduceEqDiff, reduceIte, Nat.reduceAdd, Nat.reduceMul, Nat.reduceLeDiff, Int.reduceLT, Int.reduceLE, Int.reduceToNat, Int.reduceAdd, Int.reduceNeg, Int.reduceEq]
      rw [if_neg (by simpa using h2)]
      exact tr_flat _ rfl
theorem or2_ecmp (x y : Ent) : orL [Lib.compareInt x.kind y.kind, lcmp x.sites y.sites] = ecmp x y := by
  unfold ecmp
  simp only [orL]
  by_cases h1 : x.kind = y.kind
  · simp [h1, Lib.compareInt]
    intro h; rw [h]
  · have : Lib.compareInt x.kind y.kind ≠ 0 := by
      unfold Lib.compareInt
      split
      · omega
      · split <;> omega
    simp [h1, this]
theorem compare_fn (x y : Ent) (hx : x.sites.length ≤ 9223372036854775807) (hy : y.sites.length ≤ 9223372036854775807) : Fn TT PT 149 [.agg x.row, .agg y.row] (.int .i64 (ecmp x y)) := by
  refine Fn_go T149 rfl ?_
  have cx : x.sl.cellB = true := sl_cell ..
  have cy : y.sl.cellB = true := sl_cell ..
  unfold Ent.row
  simp only [go_sem, Nat.reduceEqDiff, reduceIte, Nat.reduceAdd, Nat.reduceMul, Nat.reduceLeDiff, Int.reduceLT, Int.reduceLE, Int.reduceToNat, Int.reduceAdd, Int.reduceNeg, Int.reduceEq, cx, cy]
  refine w_drw (by kernel_rfl) ?_
  simp only [go_sem, Nat.reduceEqDiff, reduceIte, Nat.reduceAdd, Nat.reduceMul, Nat.reduceLeDiff, Int.reduceLT, Int.reduceLE, Int.reduceToNat, Int.reduceAdd, Int.reduceNeg, Int.reduceEq]
  first | refine wx_fn (cmpI_fn x.kind y.kind) (by first | rfl | simp only [go_sem]) ?_ | refine wgx_fn (cmpI_fn x.kind y.kind) (by first | rfl | simp only [go_sem]) ?_
  simp only [go_sem, Nat.reduceEqDiff, reduceIte, Nat.reduceAdd, Nat.reduceMul, Nat.reduceLeDiff, Int.reduceLT, Int.reduceLE, Int.reduceToNat, Int.reduceAdd, Int.reduceNeg, Int.reduceEq]
  refine wgx_th (cf_th x y hx hy _) (by repeat (first | exact trivial | refine ⟨.inl (by rfl), ?_⟩ | refine ⟨by rfl, ?_⟩ | refine ⟨.inr ⟨by rfl, by rfl⟩, ?_⟩)) (by repeat (first | exact trivial | refine ⟨.inl (by rfl), ?_⟩ | refine ⟨by rfl, ?_⟩ | refine ⟨.inr ⟨by rfl, by rfl⟩, ?_⟩)) ?_
  simp only [go_sem, Nat.reduceEqDiff, reduceIte, Nat.reduceAdd, Nat.reduceMul, Nat.reduceLeDiff, Int.reduceLT, Int.reduceLE, Int.reduceToNat, Int.reduceAdd, Int.reduceNeg, Int.reduceEq]
  first | refine wx_fn (orL_fn 1 [_, _] (by simp)) (by first | rfl | simp only [go_sem]) ?_ | refine wgx_fn (orL_fn 1 [_, _] (by simp)) (by first | rfl | simp only [go_sem]) ?_
  simp only [go_sem, Nat.reduceEqDiff, reduceIte, Nat.reduceAdd, Nat.reduceMul, Nat.reduceLeDiff, Int.reduceLT, Int.reduceLE, Int.reduceToNat, Int.reduceAdd, Int.reduceNeg, Int.reduceEq]
  exact fr_eq rfl (by rw [or2_ecmp])
theorem less_fn (x y : Ent) (hx : x.sites.length ≤ 9223372036854775807) (hy : y.sites.length ≤ 9223372036854775807) : Fn TT PT 105 [.agg x.row, .agg y.row] (.bool (decide (ecmp x y < 0))) := by
  refine Fn_go T105 rfl ?_
  have cx : x.sl.cellB = true := sl_cell ..
  have cy : y.sl.cellB = true := sl_cell ..
  have rx : x.sl.rowB = true := sl_row ..
  have ry : y.sl.rowB = true := sl_row ..
  unfold Ent.row
  simp only [go_sem, Nat.reduceEqDiff, reduceIte, Nat.reduceAdd, Nat.reduceMul, Nat.reduceLeDiff, Int.reduceLT, Int.reduceLE, Int.reduceToNat, Int.reduceAdd, Int.reduceNeg, Int.reduceEq, cx, cy]
  refine wx_fn (compare_fn x y hx hy) (by simp only [go_sem, Ent.row, rx, ry]) ?_
  simp only [go_sem, Nat.reduceEqDiff, reduceIte, Nat.reduceAdd, Nat.reduceMul, Nat.reduceLeDiff, Int.reduceLT, Int.reduceLE, Int.reduceToNat, Int.reduceAdd, Int.reduceNeg, Int.reduceEq]
  exact fr_set rfl
end Go.Proofs.YtlehfgdhebapeaaGreatDoor.KM
