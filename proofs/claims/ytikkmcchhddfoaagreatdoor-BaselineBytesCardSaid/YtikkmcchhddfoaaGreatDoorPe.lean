/- Walks: entries that are made of items; the law BaselineOrders. -/
import Derived.Test.YtikkmcchhddfoaaGreatDoorPd
set_option linter.all false
namespace Go.Proofs.YtikkmcchhddfoaaGreatDoor.KM
open Go
/-- one of a few keys -/
def keyOf (n : Nat) : Key := ((if n % 3 = 0 then [109, 97, 105, 110] else if n % 3 = 1 then [116, 49] else [65, 95, 57]), (if n / 3 % 3 = 0 then [120, 32, 61, 32, 49, 59] else if n / 3 % 3 = 1 then [120, 32, 61, 32, 40, 97, 32, 43, 32, 49, 41, 59] else [108, 111, 99, 107, 32, 109, 32, 123]), ((n / 9 % 3 : Nat) : Int))
def runOne (f : AF) (args : List V) : Option V := (bodyF (runD TT PT 60) f args []).bind fun p => back p.2 p.1
theorem key_runs : ((List.range 256).all fun n => match runOne af127 [.int .u8 n] with
    | some v => v.eqv (.agg (krow (keyOf n)))
    | none => false) = true := by kernel_rfl
theorem key_fn (n : Nat) (h : n < 256) : Fn TT PT 127 [.int .u8 n] (.agg (krow (keyOf n))) := by
  have := List.all_eq_true.1 key_runs n (List.mem_range.2 h)
  split at this
  · rename_i v hv
    have e := eqv_eq this
    subst e
    exact run_fnD hSt T127 rfl rfl hv
  · cases this
structure Item where
  kind : Nat
  seen : Nat
  missed : Nat
  a : Nat
  b : Nat
  c : Nat
  d : Nat
def Item.ok (x : Item) : Prop := x.kind < 256 ∧ x.seen < 256 ∧ x.missed < 256 ∧ x.a < 256 ∧ x.b < 256 ∧ x.c < 256 ∧ x.d < 256
def Item.row (x : Item) : List V := [.int .u8 x.kind, .int .u8 x.seen, .int .u8 x.missed, .int .u8 x.a, .int .u8 x.b, .int .u8 x.c, .int .u8 x.d]
def Item.nums (x : Item) : List Nat := [x.a, x.b, x.c, x.d]
def nOf (k : Nat) : Nat := if k % 4 = 0 then 2 else if k % 4 = 1 then 2 + k / 4 % 3 else if k % 4 = 2 then 2 else 4
def Item.ent (x : Item) : Ent := ⟨1 + (x.kind % 4 : Nat), (x.nums.take (nOf x.kind)).map keyOf, 1 + (x.seen % 9 : Nat), (x.missed % 8 : Nat), true, 0⟩
theorem nOf_le (k : Nat) : 2 ≤ nOf k ∧ nOf k ≤ 4 := by
  unfold nOf
  split
  · omega
  · split
    · omega
    · split <;> omega
theorem tmodN (a b : Nat) : (a : Int).tmod (b : Int) = ((a % b : Nat) : Int) := (Int.ofNat_tmod a b).symm
theorem tdivN (a b : Nat) : (a : Int).tdiv (b : Int) = ((a / b : Nat) : Int) := (Int.ofNat_tdiv a b).symm
theorem bound_nat (k : IntKind) (n d : Nat) : boundV (some (.int k (n : Int))) d = some n := by
  simp only [boundV]
  rw [if_pos (by omega), Int.toNat_natCast]
attribute [go_sem ↓] bound_nat
attribute [go_sem] Nat.sub_zero Nat.zero_le Int.natCast_nonneg
theorem iad_nat {m j g off len i : Nat} {w : Bool} {k : IntKind} (h : i < len) : iadV m (.sl j g off len m w) (.int k (i : Int)) = some (.ptr j g (off + i * m)) := by
  simp only [iadV]
  rw [if_pos ⟨by omega, by omega, trivial⟩, Int.toNat_natCast]
@[go_sem] theorem item_def (x : Item) : x.row = [.int .u8 x.kind, .int .u8 x.seen, .int .u8 x.missed, .int .u8 x.a, .int .u8 x.b, .int .u8 x.c, .int .u8 x.d] := hide rfl
theorem take_more {l : List Nat} {j m : Nat} (h : l[j]? = some m) : ((l.take (j + 1)).map keyOf).map krow = ((l.take j).map keyOf).map krow ++ [krow (keyOf m)] := by
  rw [List.take_succ, h]
  simp
theorem ents_inner (x : Item) (hx : x.ok) {p n : Nat} (hp : 0 < p) (hn : n ≤ 4) (A B C : V) (K S M : Int) (ob0 : Ob) (k : List It) (Q : Env → St → Prop)
    (hend : ∀ u s, p + 2 ≤ s.length → s[0]? = some ob0 → s[p + 1]? = some (.row [.int .i64 K, u, .int .i64 S, .int .i64 M] 139 0 0) → GW s 3 52 (p + 2) u (((x.nums.take n).map keyOf).map krow) →
      W TT PT k [(3, .ptr 0 0 0), (6, .ptr (p + 1) 0 0), (11, A), (12, B), (13, C), (49, .sl p 0 3 n 1 false), (50, .int .i64 n), (51, .int .i64 n)] s Q) :
    ∀ a : Nat × V × St, (a.1 ≤ n ∧ p + 2 ≤ a.2.2.length ∧ a.2.2[0]? = some ob0 ∧ a.2.2[p]? = some (.row x.row 204 0 0) ∧ a.2.2[p + 1]? = some (.row [.int .i64 K, a.2.1, .int .i64 S, .int .i64 M] 139 0 0) ∧ GW a.2.2 3 52 (p + 2) a.2.1 (((x.nums.take a.1).map keyOf).map krow)) →
      W TT PT (.l [3, 6, 11, 12, 13, 49, 50, 51] lp77_0 :: .b 2 :: k) [(3, .ptr 0 0 0), (6, .ptr (p + 1) 0 0), (11, A), (12, B), (13, C), (49, .sl p 0 3 n 1 false), (50, .int .i64 n), (51, .int .i64 a.1)] a.2.2 Q := by
  refine loop_w (α := Nat × V × St) (fun a => n - a.1) _ _ _ ?_
  rintro ⟨j, u, s⟩ ⟨hj, hl, h0, h1, h2, hg⟩ ih
  simp only at hj hl h0 h1 h2 hg ih
  refine w_rep (by delta lp77_0; exact rfl) ?_
  rcases Nat.lt_or_ge j n with h | h
  · obtain ⟨m, hm, -, -⟩ := at_some (l := x.nums) (i := j) (by simp [Item.nums]; omega)
    have hm256 : m < 256 := by
      have := List.mem_of_getElem? hm
      simp [Item.nums] at this
      unfold Item.ok at hx
      omega
    have hld : lo2 (some (.row x.row 204 0 0)) 0 1 true (3 + j) = some (.int .u8 (m : Int)) := by
      have : j = 0 ∨ j = 1 ∨ j = 2 ∨ j = 3 := by omega
      rcases this with rfl | rfl | rfl | rfl <;> simp [Item.nums] at hm <;> subst hm <;> rfl
    rw [item_def] at hld h1
    obtain ⟨u1, s1, e1, g1, l1, -, f1⟩ := gw_app (bytes := 40) (y := .lst 1 [krow (keyOf m)]) (ys := [krow (keyOf m)]) hg hl rfl (by omega) (krows_len _) (by simp [krow]) (by simp; omega)
    simp only [krow] at e1
    have q0 := (f1 0 (by omega)).trans h0
    have q1 := (f1 p (by omega)).trans h1
    have q2 := (f1 (p + 1) (by omega)).trans h2
    simp only [go_sem, Nat.reduceEqDiff, reduceIte, Nat.reduceAdd, Nat.reduceMul, Nat.reduceLeDiff, Int.reduceLT, Int.reduceLE, Int.reduceToNat, Int.reduceAdd, Int.reduceNeg, Int.reduceEq, lt_t h, iad_nat h, h1, hld, item_def]
    refine w_drw (by kernel_rfl) ?_
    simp only [go_sem, Nat.reduceEqDiff, reduceIte, Nat.reduceAdd, Nat.reduceMul, Nat.reduceLeDiff, Int.reduceLT, Int.reduceLE, Int.reduceToNat, Int.reduceAdd, Int.reduceNeg, Int.reduceEq, h2]
    refine wgx_fn (key_fn m hm256) rfl ?_
    simp only [go_sem, Nat.reduceEqDiff, reduceIte, Nat.reduceAdd, Nat.reduceMul, Nat.reduceLeDiff, Int.reduceLT, Int.reduceLE, Int.reduceToNat, Int.reduceAdd, Int.reduceNeg, Int.reduceEq, e1, krow]
    refine wgk_ef' (by repeat (first | exact trivial | refine ⟨.inl (by rfl), ?_⟩ | refine ⟨by rfl, ?_⟩ | refine ⟨.inr ⟨by rfl, by rfl⟩, ?_⟩)) (by repeat (first | exact trivial | refine ⟨.inl (by rfl), ?_⟩ | refine ⟨by rfl, ?_⟩ | refine ⟨.inr ⟨by rfl, by rfl⟩, ?_⟩)) ?_
    simp only [go_sem, Nat.reduceEqDiff, reduceIte, Nat.reduceAdd, Nat.reduceMul, Nat.reduceLeDiff, Int.reduceLT, Int.reduceLE, Int.reduceToNat, Int.reduceAdd, Int.reduceNeg, Int.reduceEq, q2, cells1 (gw_cell g1), gw_cell g1]
    refine wgk_ef' (by repeat (first | exact trivial | refine ⟨.inl (by rfl), ?_⟩ | refine ⟨by rfl, ?_⟩ | refine ⟨.inr ⟨by rfl, by rfl⟩, ?_⟩)) (by repeat (first | exact trivial | refine ⟨.inl (by rfl), ?_⟩ | refine ⟨by rfl, ?_⟩ | refine ⟨.inr ⟨by rfl, by rfl⟩, ?_⟩)) ?_
    simp only [go_sem, Nat.reduceEqDiff, reduceIte, Nat.reduceAdd, Nat.reduceMul, Nat.reduceLeDiff, Int.reduceLT, Int.reduceLE, Int.reduceToNat, Int.reduceAdd, Int.reduceNeg, Int.reduceEq, inc64 (show j < 9223372036854775807 by omega)]
    have e2 : (s1.set (p + 1) (.row [.int .i64 K, u1, .int .i64 S, .int .i64 M] 139 0 0))[0]? = some ob0 := by rw [List.getElem?_set_ne (by omega)]; exact q0
    refine W_keep (ih (j + 1, u1, s1.set (p + 1) (.row [.int .i64 K, u1, .int .i64 S, .int .i64 M] 139 0 0)) (by simp; omega) ⟨by simp; omega, by simp; omega, e2, ?_, ?_, ?_⟩) rfl
    · simp only [item_def]
      rw [List.getElem?_set_ne (by omega)]
      exact q1
    · simp only
      rw [List.getElem?_set_self (by omega)]
    · simp only
      rw [take_more hm]
      exact gw_set g1 (by omega)
  · obtain rfl : j = n := by omega
    simp only [go_sem, Nat.reduceEqDiff, reduceIte, Nat.reduceAdd, Nat.reduceMul, Nat.reduceLeDiff, Int.reduceLT, Int.reduceLE, Int.reduceToNat, Int.reduceAdd, Int.reduceNeg, Int.reduceEq, lt_f h]
    exact hend u s hl h0 h2 hg
def preE (l : List Item) (i : Nat) : List Ent := (l.take i).foldl (fun s x => insE x.ent s) []
theorem preE_more {l : List Item} {i : Nat} {x : Item} (h : l[i]? = some x) : preE l (i + 1) = insE x.ent (preE l i) := by
  unfold preE
  rw [List.take_succ, h]
  simp [List.foldl_append]
theorem preE_inv (l : List Item) : ∀ i, (preE l i).length ≤ i ∧ Asc (preE l i) ∧ ∀ e ∈ preE l i, ∃ x ∈ l, e = x.ent
  | 0 => by simp [preE, Asc]
  | i + 1 => by
    obtain ⟨h1, h2, h3⟩ := preE_inv l i
    cases hx : l[i]? with
    | none =>
      have : preE l (i + 1) = preE l i := by
        unfold preE
        rw [List.take_succ, hx]
        simp
      rw [this]
      exact ⟨by omega, h2, h3⟩
    | some x =>
      rw [preE_more hx]
      refine ⟨by have := insE_len (e := x.ent) (l := preE l i); omega, insE_asc h2, fun e he => ?_⟩
      rcases insE_mem he with rfl | he
      · exact ⟨x, List.mem_of_getElem? hx, rfl⟩
      · exact h3 e he
theorem ent_sites (x : Item) : x.ent.sites.length = nOf x.kind := by
  have := nOf_le x.kind
  simp [Item.ent, Item.nums]
  omega
theorem entries_fn (z : Bool) (t : Nat) (l : List Item) (hl : l.length ≤ 9223372036854775807) (hok : ∀ x ∈ l, x.ok) : Fn TT PT 77 [SL z t (l.map Item.row)] (SL true 0 ((preE l 20).map Ent.row)) := by
  refine Fn_go T77 rfl ?_
  simp only [go_sem, Nat.reduceEqDiff, reduceIte, Nat.reduceAdd, Nat.reduceMul, Nat.reduceLeDiff, Int.reduceLT, Int.reduceLE, Int.reduceToNat, Int.reduceAdd, Int.reduceNeg, Int.reduceEq, List.length_map]
  refine loop_w (α := Nat × St) (fun a => l.length - a.1) (fun a => [(3, .ptr 0 0 0), (11, SL z t (l.map Item.row)), (12, .int .i64 l.length), (13, .int .i64 a.1)]) (fun a => a.2)
    (fun a => a.1 ≤ l.length ∧ a.1 ≤ 20 ∧ a.2[0]? = some (.row [.int .i64 0, SL true 0 ((preE l a.1).map Ent.row)] 61 0 0) ∧ 1 ≤ a.2.length) ?_ (0, [.row [.int .i64 0, .nils] 61 0 0]) ⟨by simp, by simp, rfl, by simp⟩
  rintro ⟨i, s⟩ ⟨hi, hi2, h0, hs⟩ ih
  simp only at hi hi2 h0 hs ih
  obtain ⟨hp1, hp2, hp3⟩ := preE_inv l i
  refine w_rep (by delta lp77_1; exact rfl) ?_
  rcases Nat.lt_or_ge i l.length with h | h
  · obtain ⟨x, hx, -, hm⟩ := at_some h
    have hxo := hok x hm
    have hk : x.kind < 256 ∧ x.seen < 256 ∧ x.missed < 256 := ⟨hxo.1, hxo.2.1, hxo.2.2.1⟩
    have hA0 : ∀ J, (s ++ J)[0]? = some (.row [.int .i64 0, SL true 0 ((preE l i).map Ent.row)] 61 0 0) := fun J => get_app_some h0
    simp only [go_sem, Nat.reduceEqDiff, reduceIte, Nat.reduceAdd, Nat.reduceMul, Nat.reduceLeDiff, Int.reduceLT, Int.reduceLE, Int.reduceToNat, Int.reduceAdd, Int.reduceNeg, Int.reduceEq, lt_t h, List.getElem?_map, hx]
    refine wc_if (fun h2 => ?_) (fun h2 => ?_)
    · simp only [go_sem, Nat.reduceEqDiff, reduceIte, Nat.reduceAdd, Nat.reduceMul, Nat.reduceLeDiff, Int.reduceLT, Int.reduceLE, Int.reduceToNat, Int.reduceAdd, Int.reduceNeg, Int.reduceEq, hA0]
      have : preE l 20 = preE l i := by
        have : i = 20 := by simp at h2; omega
        rw [this]
      rw [this]
      exact fr_set (sl_set ..)
    · have hi20 : i < 20 := by simp at h2; omega
      have w1 : IntKind.i64.wrap (x.kind : Int) = x.kind := wrap64 (by omega)
      have w2 : IntKind.i64.wrap (x.seen : Int) = x.seen := wrap64 (by omega)
      have w3 : IntKind.i64.wrap (x.missed : Int) = x.missed := wrap64 (by omega)
      have r1 : (x.kind : Int).tmod 4 = ((x.kind % 4 : Nat) : Int) := tmodN x.kind 4
      have r2 : (x.seen : Int).tmod 9 = ((x.seen % 9 : Nat) : Int) := tmodN x.seen 9
      have r3 : (x.missed : Int).tmod 8 = ((x.missed % 8 : Nat) : Int) := tmodN x.missed 8
      have r4 : (x.kind : Int).tdiv 4 = ((x.kind / 4 : Nat) : Int) := tdivN x.kind 4
      have r5 : ((x.kind / 4 : Nat) : Int).tmod 3 = ((x.kind / 4 % 3 : Nat) : Int) := tmodN (x.kind / 4) 3
      have a1 : IntKind.i64.wrap (1 + ((x.kind % 4 : Nat) : Int)) = 1 + ((x.kind % 4 : Nat) : Int) := wrap64 (by omega)
      have a2 : IntKind.i64.wrap (1 + ((x.seen % 9 : Nat) : Int)) = 1 + ((x.seen % 9 : Nat) : Int) := wrap64 (by omega)
      have a3 : IntKind.i64.wrap ((x.kind / 4 : Nat) : Int) = ((x.kind / 4 : Nat) : Int) := wrap64 (by omega)
      have a4 : IntKind.i64.wrap (2 + ((x.kind / 4 % 3 : Nat) : Int)) = 2 + ((x.kind / 4 % 3 : Nat) : Int) := wrap64 (by omega)
      have a5 : IntKind.i64.wrap (1 + ((x.kind % 4 : Nat) : Int) - 1) = ((x.kind % 4 : Nat) : Int) := by rw [wrap64 (by omega)]; omega
      have hn := nOf_le x.kind
      have hix : ([[.int .i64 2], [.int .i64 (2 + ((x.kind / 4 % 3 : Nat) : Int))], [.int .i64 2], [.int .i64 4]] : List (List V))[x.kind % 4]? = some [.int .i64 ((nOf x.kind : Nat) : Int)] := by
        have : x.kind % 4 = 0 ∨ x.kind % 4 = 1 ∨ x.kind % 4 = 2 ∨ x.kind % 4 = 3 := by omega
        unfold nOf
        rcases this with h | h | h | h <;> rw [h] <;> simp
      simp only [go_sem, Nat.reduceEqDiff, reduceIte, Nat.reduceAdd, Nat.reduceMul, Nat.reduceLeDiff, Int.reduceLT, Int.reduceLE, Int.reduceToNat, Int.reduceAdd, Int.reduceNeg, Int.reduceEq, w1, w2, w3, r1, r2, r3, r4, r5, a1, a2, a3, a4, a5, hix, hn.2]
      refine ents_inner x hxo (p := s.length) (n := nOf x.kind) (by omega) hn.2 _ _ _ (1 + ((x.kind % 4 : Nat) : Int)) (1 + ((x.seen % 9 : Nat) : Int)) ((x.missed % 8 : Nat) : Int) (.row [.int .i64 0, SL true 0 ((preE l i).map Ent.row)] 61 0 0) _ _ ?_ (0, .nils, s ++ [.row x.row 204 0 0, .row [.int .i64 (1 + ((x.kind % 4 : Nat) : Int)), .nils, .int .i64 (1 + ((x.seen % 9 : Nat) : Int)), .int .i64 ((x.missed % 8 : Nat) : Int)] 139 0 0]) ⟨by simp, by simp, hA0 _, get_app0 _ _, get_app _ _ 1, gw_nil⟩
      intro u s' hl' h0' h2' hg'
      have hE : x.ent.sites.length ≤ 1000000 := by rw [ent_sites]; omega
      have hins := insert_fn (preE l i) x.ent (by omega) (fun e he => by obtain ⟨y, -, rfl⟩ := hp3 e he; rw [ent_sites]; have := nOf_le y.kind; omega) hE
      obtain ⟨s2, ha, hl2, hf2⟩ := after_gw hg' (krows_row _) (args := [SL true 0 ((preE l i).map Ent.row), .agg [.int .i64 (1 + ((x.kind % 4 : Nat) : Int)), u, .int .i64 (1 + ((x.seen % 9 : Nat) : Int)), .int .i64 ((x.missed % 8 : Nat) : Int)]]) (v := SL true 0 ((insE x.ent.own (preE l i)).map Ent.row)) (by simp [refsL, V.refs, rowB_refs (sl_row _ _ _)])
      have q0 := (hf2 0 (by omega)).trans h0'
      simp only [go_sem, Nat.reduceEqDiff, reduceIte, Nat.reduceAdd, Nat.reduceMul, Nat.reduceLeDiff, Int.reduceLT, Int.reduceLE, Int.reduceToNat, Int.reduceAdd, Int.reduceNeg, Int.reduceEq, h0', h2']
      refine wx_fz (.cons (ov_set (sl_set ..)) (.cons (ov_agg (.cons (oc_row rfl) (.cons (gw_oc hg' (by omega) (krows_len _) (krows_row _)) (.cons (oc_row rfl) (.cons (oc_row rfl) .nil))))) .nil)) hins ha ?_
      simp only [go_sem, Nat.reduceEqDiff, reduceIte, Nat.reduceAdd, Nat.reduceMul, Nat.reduceLeDiff, Int.reduceLT, Int.reduceLE, Int.reduceToNat, Int.reduceAdd, Int.reduceNeg, Int.reduceEq, q0, inc64 (show i < 9223372036854775807 by omega)]
      refine W_keep (ih (i + 1, _) (by simp; omega) ⟨by simp; omega, by simp; omega, ?_, by simp; omega⟩) rfl
      simp only
      rw [List.getElem?_set_self (by omega), preE_more hx]
      rfl
  · simp only [go_sem, Nat.reduceEqDiff, reduceIte, Nat.reduceAdd, Nat.reduceMul, Nat.reduceLeDiff, Int.reduceLT, Int.reduceLE, Int.reduceToNat, Int.reduceAdd, Int.reduceNeg, Int.reduceEq, lt_f h, h0]
    have : preE l 20 = preE l i := by
      unfold preE
      rw [List.take_of_length_le h, List.take_of_length_le (by omega)]
    rw [this]
    exact fr_set (sl_set ..)
end Go.Proofs.YtikkmcchhddfoaaGreatDoor.KM
