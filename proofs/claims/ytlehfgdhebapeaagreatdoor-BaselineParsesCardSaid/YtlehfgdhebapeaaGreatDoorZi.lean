/- Walks: the reference's parser of baselines; the law BaselineParses. -/
import Derived.Test.YtlehfgdhebapeaaGreatDoorZh
import Derived.Test.YtlehfgdhebapeaaGreatDoorPt
set_option linter.all false
namespace Go.Proofs.YtlehfgdhebapeaaGreatDoor.KM
open Go
def strow (x : List UInt8) : List V := [.str x]
def fdV : Option (List (List UInt8)) → V
  | none => .nils
  | some r => .lst 0 (r.map strow)
theorem fldB_len {s w : List UInt8} {n : Nat} {r : List (List UInt8)} (h : fldB s w n = some r) : r.length = n ∧ ∀ x ∈ r, x.length ≤ s.length := by
  unfold fldB at h
  split at h
  · rename_i a r' hf
    split at h
    · rename_i hr
      cases h
      refine ⟨hr.1, fun x hx => ?_⟩
      have := flds_len (n := n + 1) (s := s) x
      rw [hf] at this
      exact this (List.mem_cons_of_mem _ hx)
    · cases h
  · cases h
theorem fields_fn (s w : List UInt8) (n : Nat) (hn : n ≤ 100) (hs : s.length ≤ 1000000) : Fn TT PT 64 [.str s, .str w, .int .i64 (n : Int)] (.tup [fdV (fldB s w n), .bool (fldB s w n).isSome]) := by
  have hsp := splitN_some (n := n + 1) (s := s) (by omega) (by omega)
  have hw := inc64 (i := n) (by omega)
  refine Fn_go T64 rfl ?_
  by_cases hl : (flds (n + 1) s).length = n + 1
  rotate_left
  · have hd : (((flds (n + 1) s).length : Int) != ((n + 1 : Nat) : Int)) = true := by simp; omega
    have hf : fldB s w n = none := by
      unfold fldB
      split
      · rename_i a r he
        rw [he] at hl
        rw [if_neg (fun h => hl (by simp [h.1]))]
      · rfl
    rw [hf]
    simp only [go_sem, Nat.reduceEqDiff, reduceIte, Nat.reduceAdd, Nat.reduceMul, Nat.reduceLeDiff, Int.reduceLT, Int.reduceLE, Int.reduceToNat, Int.reduceAdd, Int.reduceNeg, Int.reduceEq, hw]
    refine wx_pr P104 (by simp only [go_sem]) hsp ?_
    simp only [go_sem, Nat.reduceEqDiff, reduceIte, Nat.reduceAdd, Nat.reduceMul, Nat.reduceLeDiff, Int.reduceLT, Int.reduceLE, Int.reduceToNat, Int.reduceAdd, Int.reduceNeg, Int.reduceEq, hw, List.length_map, hd]
    exact fr_tup (vs := [.nils, .bool false]) rfl
  obtain ⟨a, r, hf⟩ : ∃ a r, flds (n + 1) s = a :: r := by
    match flds (n + 1) s, hl with
    | a :: r, _ => exact ⟨a, r, rfl⟩
  have hr : r.length = n := by rw [hf] at hl; simpa using hl
  rw [hf] at hsp
  simp only [List.map_cons] at hsp
  have hd : (((r.length + 1 : Nat) : Int) != ((n + 1 : Nat) : Int)) = false := by simp [hr]
  cases hb : (a == w)
  · have hb' : ¬ a = w := by simpa using hb
    have hf2 : fldB s w n = none := by
      unfold fldB
      rw [hf]
      simp only
      rw [if_neg (fun h => hb' h.2)]
    rw [hf2]
    simp only [go_sem, Nat.reduceEqDiff, reduceIte, Nat.reduceAdd, Nat.reduceMul, Nat.reduceLeDiff, Int.reduceLT, Int.reduceLE, Int.reduceToNat, Int.reduceAdd, Int.reduceNeg, Int.reduceEq, hw]
    refine wx_pr P104 (by simp only [go_sem]) hsp ?_
    simp only [go_sem, Nat.reduceEqDiff, reduceIte, Nat.reduceAdd, Nat.reduceMul, Nat.reduceLeDiff, Int.reduceLT, Int.reduceLE, Int.reduceToNat, Int.reduceAdd, Int.reduceNeg, Int.reduceEq, hw, List.length_map, hd, hb]
    exact fr_tup (vs := [.nils, .bool false]) rfl
  · have hb' : a = w := by simpa using hb
    have hf2 : fldB s w n = some r := by
      unfold fldB
      rw [hf]
      simp only
      rw [if_pos ⟨hr, hb'⟩]
    have hsl : slcV 1 (.lst 0 ([V.str a] :: r.map fun x => [V.str x])) (some (.int .i64 1)) none none = some (.lst 0 (r.map fun x => [V.str x])) := by
      have : ((r.map fun x => [V.str x]).all fun r => r.length == 1) = true := by simp
      simp [slcV, boundV, List.take_of_length_le]
    rw [hf2]
    simp only [go_sem, Nat.reduceEqDiff, reduceIte, Nat.reduceAdd, Nat.reduceMul, Nat.reduceLeDiff, Int.reduceLT, Int.reduceLE, Int.reduceToNat, Int.reduceAdd, Int.reduceNeg, Int.reduceEq, hw]
    refine wx_pr P104 (by simp only [go_sem]) hsp ?_
    simp only [go_sem, Nat.reduceEqDiff, reduceIte, Nat.reduceAdd, Nat.reduceMul, Nat.reduceLeDiff, Int.reduceLT, Int.reduceLE, Int.reduceToNat, Int.reduceAdd, Int.reduceNeg, Int.reduceEq, hw, List.length_map, hd, hb, hsl]
    exact fr_tup (vs := [.lst 0 (r.map fun x => [V.str x]), .bool true]) rfl
theorem split_some {s : List UInt8} (h : s.length < 4294967281) : splitS [.str s, .str [10]] = some (.lst 1 ((linesB s).map strow)) := by
  unfold splitS
  simp only
  rw [if_pos ⟨by simp, h⟩]
  unfold linesB spl
  rw [List.map_map]
  rfl
theorem lines_len (s : List UInt8) : (linesB s).length = s.count 10 + 1 := by
  unfold linesB spl
  rw [List.length_map, Lib.splitB_all ⟨#[10]⟩ (by decide) 0 _ ⟨s.toArray⟩ rfl, countB_list]
theorem lines_each {s : List UInt8} : ∀ x ∈ linesB s, x.length ≤ s.length := by
  intro x hx
  unfold linesB spl at hx
  obtain ⟨b, hb, rfl⟩ := List.mem_map.1 hx
  exact splitB_sizes _ _ _ b hb
theorem lineB_size {i : Nat} {p : Int × List Ent} {s : List UInt8} {N : Nat} (h1 : p.2.length ≤ N) (h2 : ∀ x ∈ p.2, x.sites.length ≤ N) : (lineB i p s).2.length ≤ N + 1 ∧ ∀ x ∈ (lineB i p s).2, x.sites.length ≤ N + 1 := by
  have hself : p.2.length ≤ N + 1 ∧ ∀ x ∈ p.2, x.sites.length ≤ N + 1 := ⟨by omega, fun x hx => by have := h2 x hx; omega⟩
  unfold lineB
  split
  split
  · split
    · exact hself
    · exact hself
  · split
    · split
      · exact ⟨by simp; omega, nEnt_size h2 _ _ _⟩
      · exact hself
    · split
      · split
        · have := fun k => addSite_size k N p.2
          exact ⟨by rw [(this _).1]; omega, (this _).2 h2⟩
        · exact hself
      · exact hself
theorem lines_iad (ls : List (List UInt8)) (i : Nat) (x : List UInt8) (h : ls[i]? = some x) : iadV 1 (.lst 1 (ls.map strow)) (.int .i64 (i : Int)) = some (.imm [.str x] 0) := by
  rw [iad_l, atI_nat, List.getElem?_map, h]
  rfl
set_option maxHeartbeats 2000000 in
theorem rparse_own (str : List UInt8) (hlen0 : str.length ≤ 1000000) : ∃ v σ0, FnO TT PT 28 [.str str] v σ0 ∧ PV (resB str).1 (resB str).2.1 (resB str).2.2 v σ0 := by
  refine fno_ex (P := PV (resB str).1 (resB str).2.1 (resB str).2.2) T28 rfl ?_ pv_end
  have hsp := split_some (s := str) (by omega)
  have hll : (linesB str).length ≤ 1000001 := by
    have := List.count_le_length (a := (10 : UInt8)) (l := str)
    rw [lines_len]
    omega
  have hle := lines_each (s := str)
  have hpB : runB 0 (0, []) (linesB str) = parseB str := rfl
  generalize linesB str = ls at hsp hll hle hpB
  have hlen : (ls.map strow).length = ls.length := List.length_map ..
  simp only [go_sem, Nat.reduceEqDiff, reduceIte, Nat.reduceAdd, Nat.reduceMul, Nat.reduceLeDiff, Int.reduceLT, Int.reduceLE, Int.reduceToNat, Int.reduceAdd, Int.reduceNeg, Int.reduceEq]
  refine wx_pr P63 (by simp only [go_sem]) hsp ?_
  simp only [go_sem, Nat.reduceEqDiff, reduceIte, Nat.reduceAdd, Nat.reduceMul, Nat.reduceLeDiff, Int.reduceLT, Int.reduceLE, Int.reduceToNat, Int.reduceAdd, Int.reduceNeg, Int.reduceEq, hlen]
  refine loop_w (α := Nat × (Int × List Ent) × St) (fun a => ls.length - a.1) (fun a => [(0, .str str), (2, .ptr 0 0 0), (4, .ptr 1 0 0), (18, .lst 1 (ls.map strow)), (19, .int .i64 ls.length), (20, .int .i64 a.1)]) (fun a => a.2.2)
    (fun a => a.1 ≤ ls.length ∧ PI a.2.1.1 a.2.1.2 a.2.2 ∧ runB a.1 a.2.1 (ls.drop a.1) = parseB str ∧ (∀ e ∈ a.2.1.2, e.own = e) ∧ a.2.1.2.length ≤ a.1 ∧ ∀ x ∈ a.2.1.2, x.sites.length ≤ a.1) ?_ (0, (0, []), [.row [.int .i64 0, .nils] 61 0 0, .row [.int .i64 0, .nils] 61 0 0])
    ⟨Nat.zero_le _, ⟨cl_rows (by simp only [go_sem]) (by simp only [go_sem]), rfl, .nils, [], rfl, pg_nil, rfl⟩, hpB, (fun e he => by cases he), Nat.le_refl _, (fun x hx => by cases hx)⟩
  rintro ⟨i, ⟨n, l⟩, s⟩ ⟨hi, ⟨hc, h0, u, L, h1, hg, hL⟩, hr, hown, hl, hls⟩ ih
  simp only at hi hc h0 h1 hg hL hr hown hl hls ih
  have hs2 : 2 ≤ s.length := by have := (List.getElem?_eq_some_iff.1 h1).1; omega
  have hset0 : ∀ X : Ob, (s.set 0 X)[0]? = some X := fun X => List.getElem?_set_self (by omega)
  refine w_rep (by delta lp28_0; exact rfl) ?_
  rcases Nat.lt_or_ge i ls.length with h | h
  rotate_left
  · obtain rfl : i = ls.length := by omega
    rw [List.drop_eq_nil_of_le (Nat.le_refl _), runB] at hr
    have how := pg_ow hg hL hown n
    have hoE : okE l := fun x hx => by have := hls x hx; omega
    have hv := rvalid_fn true 0 n l hoE
    have hres : resB str = if validB n l = true ∧ baseText n l = str then (n, l, 0) else (0, [], 3) := by
      unfold resB
      rw [← hr]
    cases hb : validB n l
    · rw [hb] at hv hres
      rw [if_neg (by simp)] at hres
      rw [hres]
      simp only [go_sem, Nat.reduceEqDiff, reduceIte, Nat.reduceAdd, Nat.reduceMul, Nat.reduceLeDiff, Int.reduceLT, Int.reduceLE, Int.reduceToNat, Int.reduceAdd, Int.reduceNeg, Int.reduceEq, lt_f (Nat.le_refl ls.length), hlen, h1]
      refine wx_ow (.cons how .nil) hv (by rfl) ?_
      simp only [go_sem, Nat.reduceEqDiff, reduceIte, Nat.reduceAdd, Nat.reduceMul, Nat.reduceLeDiff, Int.reduceLT, Int.reduceLE, Int.reduceToNat, Int.reduceAdd, Int.reduceNeg, Int.reduceEq, h0, hset0]
      exact ⟨_, res2p (hset0 _) rfl rfl, pv_zero (cl_zero hc 0)⟩
    · rw [hb] at hv hres
      have hfm := rformat_fn true 0 n l (valid_text hb)
      cases hq : (baseText n l == str)
      · have hq' : ¬ baseText n l = str := by simpa using hq
        rw [if_neg (fun h => hq' h.2)] at hres
        rw [hres]
        simp only [go_sem, Nat.reduceEqDiff, reduceIte, Nat.reduceAdd, Nat.reduceMul, Nat.reduceLeDiff, Int.reduceLT, Int.reduceLE, Int.reduceToNat, Int.reduceAdd, Int.reduceNeg, Int.reduceEq, lt_f (Nat.le_refl ls.length), hlen, h1]
        refine wx_ow (.cons how .nil) hv (by rfl) ?_
        simp only [go_sem, Nat.reduceEqDiff, reduceIte, Nat.reduceAdd, Nat.reduceMul, Nat.reduceLeDiff, Int.reduceLT, Int.reduceLE, Int.reduceToNat, Int.reduceAdd, Int.reduceNeg, Int.reduceEq, h1]
        refine wx_ow (.cons how .nil) hfm (by rfl) ?_
        simp only [go_sem, Nat.reduceEqDiff, reduceIte, Nat.reduceAdd, Nat.reduceMul, Nat.reduceLeDiff, Int.reduceLT, Int.reduceLE, Int.reduceToNat, Int.reduceAdd, Int.reduceNeg, Int.reduceEq, hq, h0, hset0]
        exact ⟨_, res2p (hset0 _) rfl rfl, pv_zero (cl_zero hc 0)⟩
      · have hq' : baseText n l = str := by simpa using hq
        rw [if_pos ⟨rfl, hq'⟩] at hres
        rw [hres]
        have huc := gw_cell hg.1
        simp only [go_sem, Nat.reduceEqDiff, reduceIte, Nat.reduceAdd, Nat.reduceMul, Nat.reduceLeDiff, Int.reduceLT, Int.reduceLE, Int.reduceToNat, Int.reduceAdd, Int.reduceNeg, Int.reduceEq, lt_f (Nat.le_refl ls.length), hlen, h1]
        refine wx_ow (.cons how .nil) hv (by rfl) ?_
        simp only [go_sem, Nat.reduceEqDiff, reduceIte, Nat.reduceAdd, Nat.reduceMul, Nat.reduceLeDiff, Int.reduceLT, Int.reduceLE, Int.reduceToNat, Int.reduceAdd, Int.reduceNeg, Int.reduceEq, h1]
        refine wx_ow (.cons how .nil) hfm (by rfl) ?_
        simp only [go_sem, Nat.reduceEqDiff, reduceIte, Nat.reduceAdd, Nat.reduceMul, Nat.reduceLeDiff, Int.reduceLT, Int.reduceLE, Int.reduceToNat, Int.reduceAdd, Int.reduceNeg, Int.reduceEq, hq, h1, h0, cells1 huc, huc, hset0]
        refine ⟨_, res2p (hset0 _) rfl rfl, u, L, rfl, pg_lo (pg_keep hg fun j hj _ => by rw [List.getElem?_set_ne (by omega)]) (by omega), hL, cl_set hc fun i hi => ?_⟩
        simp only [Ob.refs, refsL, V.refs, List.append_nil, List.nil_append] at hi
        exact gw_refs hg.1 i hi
  obtain ⟨line, hx, hd, hm⟩ := at_some h
  rw [hd, runB] at hr
  have hll1 := hle line hm
  have f1 : Fn TT PT 64 [.str line, .str [98, 97, 115, 101, 108, 105, 110, 101], .int .i64 1] _ := fields_fn line _ 1 (by omega) (by omega)
  have f2 : Fn TT PT 64 [.str line, .str [101, 110, 116, 114, 121], .int .i64 3] _ := fields_fn line _ 3 (by omega) (by omega)
  have f3 : Fn TT PT 64 [.str line, .str [115, 105, 116, 101], .int .i64 3] _ := fields_fn line _ 3 (by omega) (by omega)
  have hown' := lineB_own (i := i) (p := (n, l)) (s := line) hown
  have hsz := lineB_size (i := i) (p := (n, l)) (s := line) (N := i) hl hls
  have hlb : lineB i (n, l) line = lineB i (n, l) line := rfl
  conv at hlb => rhs; unfold lineB
  have hx1 := @fldB_len line [98, 97, 115, 101, 108, 105, 110, 101] 1
  have hy1 := @fldB_len line [101, 110, 116, 114, 121] 3
  have hz1 := @fldB_len line [115, 105, 116, 101] 3
  generalize fldB line [98, 97, 115, 101, 108, 105, 110, 101] 1 = x at f1 hlb hx1
  generalize fldB line [101, 110, 116, 114, 121] 3 = y at f2 hlb hy1
  generalize fldB line [115, 105, 116, 101] 3 = z at f3 hlb hz1
  generalize lineB i (n, l) line = q at hr hown' hsz hlb
  have hinc := inc64 (show i < 9223372036854775807 by omega)
  have hi0 : ((i : Int) == 0) = decide (i = 0) := by
    by_cases hi0 : i = 0
    · subst hi0; rfl
    · rw [decide_eq_false hi0]; simpa using hi0
  by_cases hA : i = 0 ∧ x.isSome = true
  · obtain ⟨hi1, hxs⟩ := hA
    rw [decide_eq_true hi1] at hi0
    obtain ⟨r, rfl⟩ := Option.isSome_iff_exists.1 hxs
    obtain ⟨r1, r2⟩ := hx1 rfl
    obtain ⟨a, rfl⟩ : ∃ a, r = [a] := by
      match r, r1 with
      | [a], _ => exact ⟨a, rfl⟩
    have hq : q = (numA a, l) := by
      rw [hlb]
      simp [hi1]
    obtain ⟨e1, a1, he1⟩ := atoi_v a (by have := r2 a (by simp); omega)
    have huc := gw_cell hg.1
    simp only [fdV, List.map_cons, List.map_nil, strow, Option.isSome_some] at f1
    simp only [go_sem, Nat.reduceEqDiff, reduceIte, Nat.reduceAdd, Nat.reduceMul, Nat.reduceLeDiff, Int.reduceLT, Int.reduceLE, Int.reduceToNat, Int.reduceAdd, Int.reduceNeg, Int.reduceEq, lt_t h, hlen, lines_iad ls i line hx]
    refine wx_fn f1 (by simp only [go_sem]) ?_
    simp only [go_sem, Nat.reduceEqDiff, reduceIte, Nat.reduceAdd, Nat.reduceMul, Nat.reduceLeDiff, Int.reduceLT, Int.reduceLE, Int.reduceToNat, Int.reduceAdd, Int.reduceNeg, Int.reduceEq]
    refine wx_fn f2 (by simp only [go_sem]) ?_
    simp only [go_sem, Nat.reduceEqDiff, reduceIte, Nat.reduceAdd, Nat.reduceMul, Nat.reduceLeDiff, Int.reduceLT, Int.reduceLE, Int.reduceToNat, Int.reduceAdd, Int.reduceNeg, Int.reduceEq]
    refine wx_fn f3 (by simp only [go_sem]) ?_
    simp only [go_sem, Nat.reduceEqDiff, reduceIte, Nat.reduceAdd, Nat.reduceMul, Nat.reduceLeDiff, Int.reduceLT, Int.reduceLE, Int.reduceToNat, Int.reduceAdd, Int.reduceNeg, Int.reduceEq, hi0]
    refine wx_pr P59 (by simp only [go_sem]) a1 ?_
    simp only [go_sem, Nat.reduceEqDiff, reduceIte, Nat.reduceAdd, Nat.reduceMul, Nat.reduceLeDiff, Int.reduceLT, Int.reduceLE, Int.reduceToNat, Int.reduceAdd, Int.reduceNeg, Int.reduceEq, h1, hinc]
    subst hq
    refine W_keep (ih (i + 1, (numA a, l), s.set 1 (.row [.int .i64 (numA a), u] 61 0 0)) (by simp; omega) ⟨h, ⟨cl_set hc (fun i hi => by
      simp only [Ob.refs, refsL, V.refs, List.append_nil, List.nil_append] at hi
      exact gw_refs hg.1 i hi), by rw [List.getElem?_set_ne (by omega)]; exact h0, u, L, List.getElem?_set_self (by omega), pg_keep hg fun j hj _ => by rw [List.getElem?_set_ne (by omega)], hL⟩, hr, hown', hsz.1, hsz.2⟩) rfl
  have hnA : ¬ (i = 0 ∧ x.isSome = true) := hA
  by_cases hz0 : i = 0
  · have hxs : x.isSome = false := by
      cases hxs : x.isSome
      · rfl
      · exact absurd ⟨hz0, hxs⟩ hA
    rw [decide_eq_true hz0] at hi0
    rw [hxs] at f1
    cases hy : y with
    | some r =>
      subst hy
      obtain ⟨r1, r2⟩ := hy1 rfl
      obtain ⟨a, b, c, rfl⟩ : ∃ a b c, r = [a, b, c] := by
        match r, r1 with
        | [a, b, c], _ => exact ⟨a, b, c, rfl⟩
      have hq : q = (n, l ++ [nEnt (numA a) (numA b) (numA c)]) := by
        rw [hlb]
        simp [hnA]
      obtain ⟨e1, a1, he1⟩ := atoi_v a (by have := r2 a (by simp); omega)
      obtain ⟨e2, a2, he2⟩ := atoi_v b (by have := r2 b (by simp); omega)
      obtain ⟨e3, a3, he3⟩ := atoi_v c (by have := r2 c (by simp); omega)
      simp only [fdV, List.map_cons, List.map_nil, strow, Option.isSome_some] at f2
      have hc2 : Cl (s ++ [.row [.int .i64 (numA a), .nils, .int .i64 (numA b), .int .i64 (numA c)] 131 0 0]) := cl_push hc (by simp [Ob.refs, refsL, V.refs])
      have hg2 : PG (s ++ [.row [.int .i64 (numA a), .nils, .int .i64 (numA b), .int .i64 (numA c)] 131 0 0]) 2 u L := pg_keep hg fun j _ hj => List.getElem?_append_left hj
      obtain ⟨u', s1, e4, g1, k1, c1, f4⟩ := pg_ent hg2 (by simp; omega) hc2 (by rw [← hL] at hl; simp at hl; omega) (numA a) (numA b) (numA c)
      have huc := gw_cell g1.1
      have q1 : s1[1]? = some (.row [.int .i64 n, u] 61 0 0) := (f4 1 (by omega)).trans (get_app_some h1)
      have q0 : s1[0]? = some (.row [.int .i64 0, .nils] 61 0 0) := (f4 0 (by omega)).trans (get_app_some h0)
      have hsJ : ∀ J : St, (s ++ J)[1]? = some (.row [.int .i64 n, u] 61 0 0) := fun J => get_app_some h1
      simp only [List.length_append, List.length_cons, List.length_nil] at k1
      simp only [go_sem, Nat.reduceEqDiff, reduceIte, Nat.reduceAdd, Nat.reduceMul, Nat.reduceLeDiff, Int.reduceLT, Int.reduceLE, Int.reduceToNat, Int.reduceAdd, Int.reduceNeg, Int.reduceEq, lt_t h, hlen, lines_iad ls i line hx]
      refine wx_fn f1 (by simp only [go_sem]) ?_
      simp only [go_sem, Nat.reduceEqDiff, reduceIte, Nat.reduceAdd, Nat.reduceMul, Nat.reduceLeDiff, Int.reduceLT, Int.reduceLE, Int.reduceToNat, Int.reduceAdd, Int.reduceNeg, Int.reduceEq]
      refine wx_fn f2 (by simp only [go_sem]) ?_
      simp only [go_sem, Nat.reduceEqDiff, reduceIte, Nat.reduceAdd, Nat.reduceMul, Nat.reduceLeDiff, Int.reduceLT, Int.reduceLE, Int.reduceToNat, Int.reduceAdd, Int.reduceNeg, Int.reduceEq]
      refine wx_fn f3 (by simp only [go_sem]) ?_
      simp only [go_sem, Nat.reduceEqDiff, reduceIte, Nat.reduceAdd, Nat.reduceMul, Nat.reduceLeDiff, Int.reduceLT, Int.reduceLE, Int.reduceToNat, Int.reduceAdd, Int.reduceNeg, Int.reduceEq, hi0]
      refine wx_pr P59 (by simp only [go_sem]) a1 ?_
      simp only [go_sem, Nat.reduceEqDiff, reduceIte, Nat.reduceAdd, Nat.reduceMul, Nat.reduceLeDiff, Int.reduceLT, Int.reduceLE, Int.reduceToNat, Int.reduceAdd, Int.reduceNeg, Int.reduceEq]
      refine wx_pr P59 (by simp only [go_sem]) a2 ?_
      simp only [go_sem, Nat.reduceEqDiff, reduceIte, Nat.reduceAdd, Nat.reduceMul, Nat.reduceLeDiff, Int.reduceLT, Int.reduceLE, Int.reduceToNat, Int.reduceAdd, Int.reduceNeg, Int.reduceEq]
      refine wx_pr P59 (by simp only [go_sem]) a3 ?_
      simp only [go_sem, Nat.reduceEqDiff, reduceIte, Nat.reduceAdd, Nat.reduceMul, Nat.reduceLeDiff, Int.reduceLT, Int.reduceLE, Int.reduceToNat, Int.reduceAdd, Int.reduceNeg, Int.reduceEq, hsJ, e4, q1, cells1 huc, huc, hinc]
      subst hq
      refine W_keep (ih (i + 1, (n, l ++ [nEnt (numA a) (numA b) (numA c)]), s1.set 1 (.row [.int .i64 n, u'] 61 0 0)) (by simp; omega) ⟨h, ⟨cl_set c1 (fun i hi => by
        simp only [Ob.refs, refsL, V.refs, List.append_nil, List.nil_append] at hi
        exact gw_refs g1.1 i hi), by rw [List.getElem?_set_ne (by omega)]; exact q0, u', _, List.getElem?_set_self (by omega), pg_keep g1 fun j hj _ => by rw [List.getElem?_set_ne (by omega)], by rw [List.map_append, hL]; rfl⟩, hr, hown', hsz.1, hsz.2⟩) rfl
    | none =>
      subst hy
      simp only [fdV, Option.isSome_none] at f2
      by_cases hC : z.isSome = true ∧ l ≠ []
      · obtain ⟨hzs, hl0⟩ := hC
        obtain ⟨r, rfl⟩ := Option.isSome_iff_exists.1 hzs
        obtain ⟨r1, r2⟩ := hz1 rfl
        obtain ⟨a, b, c, rfl⟩ : ∃ a b c, r = [a, b, c] := by
          match r, r1 with
          | [a, b, c], _ => exact ⟨a, b, c, rfl⟩
        have hq : q = (n, addSite (b, c, numA a) l) := by
          rw [hlb]
          simp [hnA, hl0]
        obtain ⟨e1, a1, he1⟩ := atoi_v a (by have := r2 a (by simp); omega)
        simp only [fdV, List.map_cons, List.map_nil, strow, Option.isSome_some] at f3
        obtain ⟨M, p, rfl, hlM⟩ := last_of hL hl0
        have hpb : p.2.sites.length ≤ 1000000 := by have := hls p.2 (by rw [hlM]; simp); omega
        have hMl : M.length + 1 ≤ 1000001 := by rw [hlM] at hl; simp at hl; omega
        obtain ⟨iu, g, w', s1, rfl, hlo, ho, e4, hwc, ho1, k1, k2, g1, c1⟩ := pg_site hg (by omega) hc (b, c, numA a) hpb
        have hq1 : s1[1]? = some (.row [.int .i64 n, .sl iu g 0 (M.length + 1) 4 true] 61 0 0) := (k2 1 (by omega)).trans h1
        have hq0 : s1[0]? = some (.row [.int .i64 0, .nils] 61 0 0) := (k2 0 (by omega)).trans h0
        have hcl := flatL_len (nrows_len (M ++ [p]))
        rw [List.length_map, List.length_append, List.length_singleton] at hcl
        have hc1 := lo2_at (e := 131) (g := g) (z := 0) (nflat_1 (L := M ++ [p]) (i := M.length) (p := p) (by simp))
        have wm : IntKind.i64.wrap (((M.length + 1 : Nat) : Int) - 1) = (M.length : Int) := by rw [wrap64 (by omega)]; omega
        have hz : decide ((0 : Int) < ((M.length + 1 : Nat) : Int)) = true := by simp <;> omega
        have hle4 : (M.length * 4 + 1 + 1 ≤ ((M ++ [p]).map nrow).flatten.length) = True := eq_true (by omega)
        simp only [krow] at e4
        simp only [go_sem, Nat.reduceEqDiff, reduceIte, Nat.reduceAdd, Nat.reduceMul, Nat.reduceLeDiff, Int.reduceLT, Int.reduceLE, Int.reduceToNat, Int.reduceAdd, Int.reduceNeg, Int.reduceEq, lt_t h, hlen, lines_iad ls i line hx]
        refine wx_fn f1 (by simp only [go_sem]) ?_
        simp only [go_sem, Nat.reduceEqDiff, reduceIte, Nat.reduceAdd, Nat.reduceMul, Nat.reduceLeDiff, Int.reduceLT, Int.reduceLE, Int.reduceToNat, Int.reduceAdd, Int.reduceNeg, Int.reduceEq]
        refine wx_fn f2 (by simp only [go_sem]) ?_
        simp only [go_sem, Nat.reduceEqDiff, reduceIte, Nat.reduceAdd, Nat.reduceMul, Nat.reduceLeDiff, Int.reduceLT, Int.reduceLE, Int.reduceToNat, Int.reduceAdd, Int.reduceNeg, Int.reduceEq]
        refine wx_fn f3 (by simp only [go_sem]) ?_
        simp only [go_sem, Nat.reduceEqDiff, reduceIte, Nat.reduceAdd, Nat.reduceMul, Nat.reduceLeDiff, Int.reduceLT, Int.reduceLE, Int.reduceToNat, Int.reduceAdd, Int.reduceNeg, Int.reduceEq, hi0, h1, hz]
        refine wx_pr P59 (by simp only [go_sem]) a1 ?_
        simp only [go_sem, Nat.reduceEqDiff, reduceIte, Nat.reduceAdd, Nat.reduceMul, Nat.reduceLeDiff, Int.reduceLT, Int.reduceLE, Int.reduceToNat, Int.reduceAdd, Int.reduceNeg, Int.reduceEq, h1, wm, iad_nat (show M.length < M.length + 1 by omega)]
        refine w_drw (by kernel_rfl) ?_
        simp only [go_sem, Nat.reduceEqDiff, reduceIte, Nat.reduceAdd, Nat.reduceMul, Nat.reduceLeDiff, Int.reduceLT, Int.reduceLE, Int.reduceToNat, Int.reduceAdd, Int.reduceNeg, Int.reduceEq, ho, hc1, e4]
        refine wgk_ef' (by repeat (first | exact trivial | refine ⟨.inl (by rfl), ?_⟩ | refine ⟨by rfl, ?_⟩ | refine ⟨.inr ⟨by rfl, by rfl⟩, ?_⟩)) (by repeat (first | exact trivial | refine ⟨.inl (by rfl), ?_⟩ | refine ⟨by rfl, ?_⟩ | refine ⟨.inr ⟨by rfl, by rfl⟩, ?_⟩)) ?_
        simp only [go_sem, Nat.reduceEqDiff, reduceIte, Nat.reduceAdd, Nat.reduceMul, Nat.reduceLeDiff, Int.reduceLT, Int.reduceLE, Int.reduceToNat, Int.reduceAdd, Int.reduceNeg, Int.reduceEq, ho1, hle4, cells1 hwc, hwc]
        refine wgk_ef' (by repeat (first | exact trivial | refine ⟨.inl (by rfl), ?_⟩ | refine ⟨by rfl, ?_⟩ | refine ⟨.inr ⟨by rfl, by rfl⟩, ?_⟩)) (by repeat (first | exact trivial | refine ⟨.inl (by rfl), ?_⟩ | refine ⟨by rfl, ?_⟩ | refine ⟨.inr ⟨by rfl, by rfl⟩, ?_⟩)) ?_
        simp only [go_sem, Nat.reduceEqDiff, reduceIte, Nat.reduceAdd, Nat.reduceMul, Nat.reduceLeDiff, Int.reduceLT, Int.reduceLE, Int.reduceToNat, Int.reduceAdd, Int.reduceNeg, Int.reduceEq, hinc]
        subst hq
        refine W_keep (ih (i + 1, (n, addSite (b, c, numA a) l), _) (by simp; omega) ⟨h, ⟨c1, by rw [List.getElem?_set_ne (by omega)]; exact hq0, _, _, by rw [List.getElem?_set_ne (by omega)]; exact hq1, g1, by rw [hlM, addSite_app]; simp⟩, hr, hown', hsz.1, hsz.2⟩) rfl
      · have hq : q = (n, l) := by
          rw [hlb]
          have hC' : ¬ (z.isSome = true ∧ (n, l).2 ≠ []) := hC
          simp only [Option.isSome_none, Bool.false_eq_true, if_false]
          rw [if_neg hnA, if_neg hC']
        subst hq
        cases hzs : z.isSome
        · rw [hzs] at f3
          simp only [go_sem, Nat.reduceEqDiff, reduceIte, Nat.reduceAdd, Nat.reduceMul, Nat.reduceLeDiff, Int.reduceLT, Int.reduceLE, Int.reduceToNat, Int.reduceAdd, Int.reduceNeg, Int.reduceEq, lt_t h, hlen, lines_iad ls i line hx]
          refine wx_fn f1 (by simp only [go_sem]) ?_
          simp only [go_sem, Nat.reduceEqDiff, reduceIte, Nat.reduceAdd, Nat.reduceMul, Nat.reduceLeDiff, Int.reduceLT, Int.reduceLE, Int.reduceToNat, Int.reduceAdd, Int.reduceNeg, Int.reduceEq]
          refine wx_fn f2 (by simp only [go_sem]) ?_
          simp only [go_sem, Nat.reduceEqDiff, reduceIte, Nat.reduceAdd, Nat.reduceMul, Nat.reduceLeDiff, Int.reduceLT, Int.reduceLE, Int.reduceToNat, Int.reduceAdd, Int.reduceNeg, Int.reduceEq]
          refine wx_fn f3 (by simp only [go_sem]) ?_
          simp only [go_sem, Nat.reduceEqDiff, reduceIte, Nat.reduceAdd, Nat.reduceMul, Nat.reduceLeDiff, Int.reduceLT, Int.reduceLE, Int.reduceToNat, Int.reduceAdd, Int.reduceNeg, Int.reduceEq, hi0, hinc]
          refine W_keep (ih (i + 1, (n, l), s) (by simp; omega) ⟨h, ⟨hc, h0, u, L, h1, hg, hL⟩, hr, hown', hsz.1, hsz.2⟩) rfl
        · rw [hzs] at f3
          have hl0 : l = [] := by
            by_cases hl0 : l = []
            · exact hl0
            · exact absurd ⟨hzs, hl0⟩ hC
          have hu : lenV u = some (.int .i64 0) := by
            have := gw_len hg.1
            rw [List.length_map] at this
            have hL0 : L = [] := by rw [hl0] at hL; simpa using hL
            rw [this, hL0]
            rfl
          simp only [go_sem, Nat.reduceEqDiff, reduceIte, Nat.reduceAdd, Nat.reduceMul, Nat.reduceLeDiff, Int.reduceLT, Int.reduceLE, Int.reduceToNat, Int.reduceAdd, Int.reduceNeg, Int.reduceEq, lt_t h, hlen, lines_iad ls i line hx]
          refine wx_fn f1 (by simp only [go_sem]) ?_
          simp only [go_sem, Nat.reduceEqDiff, reduceIte, Nat.reduceAdd, Nat.reduceMul, Nat.reduceLeDiff, Int.reduceLT, Int.reduceLE, Int.reduceToNat, Int.reduceAdd, Int.reduceNeg, Int.reduceEq]
          refine wx_fn f2 (by simp only [go_sem]) ?_
          simp only [go_sem, Nat.reduceEqDiff, reduceIte, Nat.reduceAdd, Nat.reduceMul, Nat.reduceLeDiff, Int.reduceLT, Int.reduceLE, Int.reduceToNat, Int.reduceAdd, Int.reduceNeg, Int.reduceEq]
          refine wx_fn f3 (by simp only [go_sem]) ?_
          simp only [go_sem, Nat.reduceEqDiff, reduceIte, Nat.reduceAdd, Nat.reduceMul, Nat.reduceLeDiff, Int.reduceLT, Int.reduceLE, Int.reduceToNat, Int.reduceAdd, Int.reduceNeg, Int.reduceEq, hi0, h1, hu, hinc]
          refine W_keep (ih (i + 1, (n, l), s) (by simp; omega) ⟨h, ⟨hc, h0, u, L, h1, hg, hL⟩, hr, hown', hsz.1, hsz.2⟩) rfl
  · rw [decide_eq_false hz0] at hi0
    cases hy : y with
    | some r =>
      subst hy
      obtain ⟨r1, r2⟩ := hy1 rfl
      obtain ⟨a, b, c, rfl⟩ : ∃ a b c, r = [a, b, c] := by
        match r, r1 with
        | [a, b, c], _ => exact ⟨a, b, c, rfl⟩
      have hq : q = (n, l ++ [nEnt (numA a) (numA b) (numA c)]) := by
        rw [hlb]
        simp [hnA]
      obtain ⟨e1, a1, he1⟩ := atoi_v a (by have := r2 a (by simp); omega)
      obtain ⟨e2, a2, he2⟩ := atoi_v b (by have := r2 b (by simp); omega)
      obtain ⟨e3, a3, he3⟩ := atoi_v c (by have := r2 c (by simp); omega)
      simp only [fdV, List.map_cons, List.map_nil, strow, Option.isSome_some] at f2
      have hc2 : Cl (s ++ [.row [.int .i64 (numA a), .nils, .int .i64 (numA b), .int .i64 (numA c)] 131 0 0]) := cl_push hc (by simp [Ob.refs, refsL, V.refs])
      have hg2 : PG (s ++ [.row [.int .i64 (numA a), .nils, .int .i64 (numA b), .int .i64 (numA c)] 131 0 0]) 2 u L := pg_keep hg fun j _ hj => List.getElem?_append_left hj
      obtain ⟨u', s1, e4, g1, k1, c1, f4⟩ := pg_ent hg2 (by simp; omega) hc2 (by rw [← hL] at hl; simp at hl; omega) (numA a) (numA b) (numA c)
      have huc := gw_cell g1.1
      have q1 : s1[1]? = some (.row [.int .i64 n, u] 61 0 0) := (f4 1 (by omega)).trans (get_app_some h1)
      have q0 : s1[0]? = some (.row [.int .i64 0, .nils] 61 0 0) := (f4 0 (by omega)).trans (get_app_some h0)
      have hsJ : ∀ J : St, (s ++ J)[1]? = some (.row [.int .i64 n, u] 61 0 0) := fun J => get_app_some h1
      simp only [List.length_append, List.length_cons, List.length_nil] at k1
      simp only [go_sem, Nat.reduceEqDiff, reduceIte, Nat.reduceAdd, Nat.reduceMul, Nat.reduceLeDiff, Int.reduceLT, Int.reduceLE, Int.reduceToNat, Int.reduceAdd, Int.reduceNeg, Int.reduceEq, lt_t h, hlen, lines_iad ls i line hx]
      refine wx_fn f1 (by simp only [go_sem]) ?_
      simp only [go_sem, Nat.reduceEqDiff, reduceIte, Nat.reduceAdd, Nat.reduceMul, Nat.reduceLeDiff, Int.reduceLT, Int.reduceLE, Int.reduceToNat, Int.reduceAdd, Int.reduceNeg, Int.reduceEq]
      refine wx_fn f2 (by simp only [go_sem]) ?_
      simp only [go_sem, Nat.reduceEqDiff, reduceIte, Nat.reduceAdd, Nat.reduceMul, Nat.reduceLeDiff, Int.reduceLT, Int.reduceLE, Int.reduceToNat, Int.reduceAdd, Int.reduceNeg, Int.reduceEq]
      refine wx_fn f3 (by simp only [go_sem]) ?_
      simp only [go_sem, Nat.reduceEqDiff, reduceIte, Nat.reduceAdd, Nat.reduceMul, Nat.reduceLeDiff, Int.reduceLT, Int.reduceLE, Int.reduceToNat, Int.reduceAdd, Int.reduceNeg, Int.reduceEq, hi0]
      refine wx_pr P59 (by simp only [go_sem]) a1 ?_
      simp only [go_sem, Nat.reduceEqDiff, reduceIte, Nat.reduceAdd, Nat.reduceMul, Nat.reduceLeDiff, Int.reduceLT, Int.reduceLE, Int.reduceToNat, Int.reduceAdd, Int.reduceNeg, Int.reduceEq]
      refine wx_pr P59 (by simp only [go_sem]) a2 ?_
      simp only [go_sem, Nat.reduceEqDiff, reduceIte, Nat.reduceAdd, Nat.reduceMul, Nat.reduceLeDiff, Int.reduceLT, Int.reduceLE, Int.reduceToNat, Int.reduceAdd, Int.reduceNeg, Int.reduceEq]
      refine wx_pr P59 (by simp only [go_sem]) a3 ?_
      simp only [go_sem, Nat.reduceEqDiff, reduceIte, Nat.reduceAdd, Nat.reduceMul, Nat.reduceLeDiff, Int.reduceLT, Int.reduceLE, Int.reduceToNat, Int.reduceAdd, Int.reduceNeg, Int.reduceEq, hsJ, e4, q1, cells1 huc, huc, hinc]
      subst hq
      refine W_keep (ih (i + 1, (n, l ++ [nEnt (numA a) (numA b) (numA c)]), s1.set 1 (.row [.int .i64 n, u'] 61 0 0)) (by simp; omega) ⟨h, ⟨cl_set c1 (fun i hi => by
        simp only [Ob.refs, refsL, V.refs, List.append_nil, List.nil_append] at hi
        exact gw_refs g1.1 i hi), by rw [List.getElem?_set_ne (by omega)]; exact q0, u', _, List.getElem?_set_self (by omega), pg_keep g1 fun j hj _ => by rw [List.getElem?_set_ne (by omega)], by rw [List.map_append, hL]; rfl⟩, hr, hown', hsz.1, hsz.2⟩) rfl
    | none =>
      subst hy
      simp only [fdV, Option.isSome_none] at f2
      by_cases hC : z.isSome = true ∧ l ≠ []
      · obtain ⟨hzs, hl0⟩ := hC
        obtain ⟨r, rfl⟩ := Option.isSome_iff_exists.1 hzs
        obtain ⟨r1, r2⟩ := hz1 rfl
        obtain ⟨a, b, c, rfl⟩ : ∃ a b c, r = [a, b, c] := by
          match r, r1 with
          | [a, b, c], _ => exact ⟨a, b, c, rfl⟩
        have hq : q = (n, addSite (b, c, numA a) l) := by
          rw [hlb]
          simp [hnA, hl0]
        obtain ⟨e1, a1, he1⟩ := atoi_v a (by have := r2 a (by simp); omega)
        simp only [fdV, List.map_cons, List.map_nil, strow, Option.isSome_some] at f3
        obtain ⟨M, p, rfl, hlM⟩ := last_of hL hl0
        have hpb : p.2.sites.length ≤ 1000000 := by have := hls p.2 (by rw [hlM]; simp); omega
        have hMl : M.length + 1 ≤ 1000001 := by rw [hlM] at hl; simp at hl; omega
        obtain ⟨iu, g, w', s1, rfl, hlo, ho, e4, hwc, ho1, k1, k2, g1, c1⟩ := pg_site hg (by omega) hc (b, c, numA a) hpb
        have hq1 : s1[1]? = some (.row [.int .i64 n, .sl iu g 0 (M.length + 1) 4 true] 61 0 0) := (k2 1 (by omega)).trans h1
        have hq0 : s1[0]? = some (.row [.int .i64 0, .nils] 61 0 0) := (k2 0 (by omega)).trans h0
        have hcl := flatL_len (nrows_len (M ++ [p]))
        rw [List.length_map, List.length_append, List.length_singleton] at hcl
        have hc1 := lo2_at (e := 131) (g := g) (z := 0) (nflat_1 (L := M ++ [p]) (i := M.length) (p := p) (by simp))
        have wm : IntKind.i64.wrap (((M.length + 1 : Nat) : Int) - 1) = (M.length : Int) := by rw [wrap64 (by omega)]; omega
        have hz : decide ((0 : Int) < ((M.length + 1 : Nat) : Int)) = true := by simp <;> omega
        have hle4 : (M.length * 4 + 1 + 1 ≤ ((M ++ [p]).map nrow).flatten.length) = True := eq_true (by omega)
        simp only [krow] at e4
        simp only [go_sem, Nat.reduceEqDiff, reduceIte, Nat.reduceAdd, Nat.reduceMul, Nat.reduceLeDiff, Int.reduceLT, Int.reduceLE, Int.reduceToNat, Int.reduceAdd, Int.reduceNeg, Int.reduceEq, lt_t h, hlen, lines_iad ls i line hx]
        refine wx_fn f1 (by simp only [go_sem]) ?_
        simp only [go_sem, Nat.reduceEqDiff, reduceIte, Nat.reduceAdd, Nat.reduceMul, Nat.reduceLeDiff, Int.reduceLT, Int.reduceLE, Int.reduceToNat, Int.reduceAdd, Int.reduceNeg, Int.reduceEq]
        refine wx_fn f2 (by simp only [go_sem]) ?_
        simp only [go_sem, Nat.reduceEqDiff, reduceIte, Nat.reduceAdd, Nat.reduceMul, Nat.reduceLeDiff, Int.reduceLT, Int.reduceLE, Int.reduceToNat, Int.reduceAdd, Int.reduceNeg, Int.reduceEq]
        refine wx_fn f3 (by simp only [go_sem]) ?_
        simp only [go_sem, Nat.reduceEqDiff, reduceIte, Nat.reduceAdd, Nat.reduceMul, Nat.reduceLeDiff, Int.reduceLT, Int.reduceLE, Int.reduceToNat, Int.reduceAdd, Int.reduceNeg, Int.reduceEq, hi0, h1, hz]
        refine wx_pr P59 (by simp only [go_sem]) a1 ?_
        simp only [go_sem, Nat.reduceEqDiff, reduceIte, Nat.reduceAdd, Nat.reduceMul, Nat.reduceLeDiff, Int.reduceLT, Int.reduceLE, Int.reduceToNat, Int.reduceAdd, Int.reduceNeg, Int.reduceEq, h1, wm, iad_nat (show M.length < M.length + 1 by omega)]
        refine w_drw (by kernel_rfl) ?_
        simp only [go_sem, Nat.reduceEqDiff, reduceIte, Nat.reduceAdd, Nat.reduceMul, Nat.reduceLeDiff, Int.reduceLT, Int.reduceLE, Int.reduceToNat, Int.reduceAdd, Int.reduceNeg, Int.reduceEq, ho, hc1, e4]
        refine wgk_ef' (by repeat (first | exact trivial | refine ⟨.inl (by rfl), ?_⟩ | refine ⟨by rfl, ?_⟩ | refine ⟨.inr ⟨by rfl, by rfl⟩, ?_⟩)) (by repeat (first | exact trivial | refine ⟨.inl (by rfl), ?_⟩ | refine ⟨by rfl, ?_⟩ | refine ⟨.inr ⟨by rfl, by rfl⟩, ?_⟩)) ?_
        simp only [go_sem, Nat.reduceEqDiff, reduceIte, Nat.reduceAdd, Nat.reduceMul, Nat.reduceLeDiff, Int.reduceLT, Int.reduceLE, Int.reduceToNat, Int.reduceAdd, Int.reduceNeg, Int.reduceEq, ho1, hle4, cells1 hwc, hwc]
        refine wgk_ef' (by repeat (first | exact trivial | refine ⟨.inl (by rfl), ?_⟩ | refine ⟨by rfl, ?_⟩ | refine ⟨.inr ⟨by rfl, by rfl⟩, ?_⟩)) (by repeat (first | exact trivial | refine ⟨.inl (by rfl), ?_⟩ | refine ⟨by rfl, ?_⟩ | refine ⟨.inr ⟨by rfl, by rfl⟩, ?_⟩)) ?_
        simp only [go_sem, Nat.reduceEqDiff, reduceIte, Nat.reduceAdd, Nat.reduceMul, Nat.reduceLeDiff, Int.reduceLT, Int.reduceLE, Int.reduceToNat, Int.reduceAdd, Int.reduceNeg, Int.reduceEq, hinc]
        subst hq
        refine W_keep (ih (i + 1, (n, addSite (b, c, numA a) l), _) (by simp; omega) ⟨h, ⟨c1, by rw [List.getElem?_set_ne (by omega)]; exact hq0, _, _, by rw [List.getElem?_set_ne (by omega)]; exact hq1, g1, by rw [hlM, addSite_app]; simp⟩, hr, hown', hsz.1, hsz.2⟩) rfl
      · have hq : q = (n, l) := by
          rw [hlb]
          have hC' : ¬ (z.isSome = true ∧ (n, l).2 ≠ []) := hC
          simp only [Option.isSome_none, Bool.false_eq_true, if_false]
          rw [if_neg hnA, if_neg hC']
        subst hq
        cases hzs : z.isSome
        · rw [hzs] at f3
          simp only [go_sem, Nat.reduceEqDiff, reduceIte, Nat.reduceAdd, Nat.reduceMul, Nat.reduceLeDiff, Int.reduceLT, Int.reduceLE, Int.reduceToNat, Int.reduceAdd, Int.reduceNeg, Int.reduceEq, lt_t h, hlen, lines_iad ls i line hx]
          refine wx_fn f1 (by simp only [go_sem]) ?_
          simp only [go_sem, Nat.reduceEqDiff, reduceIte, Nat.reduceAdd, Nat.reduceMul, Nat.reduceLeDiff, Int.reduceLT, Int.reduceLE, Int.reduceToNat, Int.reduceAdd, Int.reduceNeg, Int.reduceEq]
          refine wx_fn f2 (by simp only [go_sem]) ?_
          simp only [go_sem, Nat.reduceEqDiff, reduceIte, Nat.reduceAdd, Nat.reduceMul, Nat.reduceLeDiff, Int.reduceLT, Int.reduceLE, Int.reduceToNat, Int.reduceAdd, Int.reduceNeg, Int.reduceEq]
          refine wx_fn f3 (by simp only [go_sem]) ?_
          simp only [go_sem, Nat.reduceEqDiff, reduceIte, Nat.reduceAdd, Nat.reduceMul, Nat.reduceLeDiff, Int.reduceLT, Int.reduceLE, Int.reduceToNat, Int.reduceAdd, Int.reduceNeg, Int.reduceEq, hi0, hinc]
          refine W_keep (ih (i + 1, (n, l), s) (by simp; omega) ⟨h, ⟨hc, h0, u, L, h1, hg, hL⟩, hr, hown', hsz.1, hsz.2⟩) rfl
        · rw [hzs] at f3
          have hl0 : l = [] := by
            by_cases hl0 : l = []
            · exact hl0
            · exact absurd ⟨hzs, hl0⟩ hC
          have hu : lenV u = some (.int .i64 0) := by
            have := gw_len hg.1
            rw [List.length_map] at this
            have hL0 : L = [] := by rw [hl0] at hL; simpa using hL
            rw [this, hL0]
            rfl
          simp only [go_sem, Nat.reduceEqDiff, reduceIte, Nat.reduceAdd, Nat.reduceMul, Nat.reduceLeDiff, Int.reduceLT, Int.reduceLE, Int.reduceToNat, Int.reduceAdd, Int.reduceNeg, Int.reduceEq, lt_t h, hlen, lines_iad ls i line hx]
          refine wx_fn f1 (by simp only [go_sem]) ?_
          simp only [go_sem, Nat.reduceEqDiff, reduceIte, Nat.reduceAdd, Nat.reduceMul, Nat.reduceLeDiff, Int.reduceLT, Int.reduceLE, Int.reduceToNat, Int.reduceAdd, Int.reduceNeg, Int.reduceEq]
          refine wx_fn f2 (by simp only [go_sem]) ?_
          simp only [go_sem, Nat.reduceEqDiff, reduceIte, Nat.reduceAdd, Nat.reduceMul, Nat.reduceLeDiff, Int.reduceLT, Int.reduceLE, Int.reduceToNat, Int.reduceAdd, Int.reduceNeg, Int.reduceEq]
          refine wx_fn f3 (by simp only [go_sem]) ?_
          simp only [go_sem, Nat.reduceEqDiff, reduceIte, Nat.reduceAdd, Nat.reduceMul, Nat.reduceLeDiff, Int.reduceLT, Int.reduceLE, Int.reduceToNat, Int.reduceAdd, Int.reduceNeg, Int.reduceEq, hi0, h1, hu, hinc]
          refine W_keep (ih (i + 1, (n, l), s) (by simp; omega) ⟨h, ⟨hc, h0, u, L, h1, hg, hL⟩, hr, hown', hsz.1, hsz.2⟩) rfl
theorem rparse_fn (str : List UInt8) (hlen : str.length ≤ 1000000) (ho : ∀ e ∈ (resB str).2.1, e.own = e) : Fn TT PT 28 [.str str] (.tup [.agg [.int .i64 (resB str).1, SL true 0 ((resB str).2.1.map Ent.row)], .int .i64 (resB str).2.2]) := by
  obtain ⟨v, σ0, hf, u, L, rfl, h1, h2, h3⟩ := rparse_own str hlen
  exact fn_of_own hf (.cons (pg_ow h1 h2 ho _) (.cons (ow_ov (ov_set rfl)) .nil))
theorem resB_own (s : List UInt8) : (∀ e ∈ (resB s).2.1, e.own = e) ∧ okE (resB s).2.1 ∧ (resB s).2.1.length ≤ 1000000 := by
  unfold resB
  split
  · rename_i h
    obtain ⟨b1, b2, b3, b4, b5⟩ := valid_parts h.1
    exact ⟨parseB_own s, (fun x hx => okV_len (b3 x hx)), (by show (parseB s).2.length ≤ 1000000; omega)⟩
  · exact ⟨(fun e he => by cases he), (fun e he => by cases he), Nat.zero_le _⟩
theorem lawParses_fn (str : List UInt8) : Fn TT PT 7 [.str str] (.bool true) := by
  refine Fn_go T7 rfl ?_
  cases hlen : decide ((4000 : Int) < (str.length : Int))
  rotate_left
  · simp only [go_sem, Nat.reduceEqDiff, reduceIte, Nat.reduceAdd, Nat.reduceMul, Nat.reduceLeDiff, Int.reduceLT, Int.reduceLE, Int.reduceToNat, Int.reduceAdd, Int.reduceNeg, Int.reduceEq, hlen]
    refine wx_fn awake_fn (by simp only [go_sem]) ?_
    simp only [go_sem, Nat.reduceEqDiff, reduceIte, Nat.reduceAdd, Nat.reduceMul, Nat.reduceLeDiff, Int.reduceLT, Int.reduceLE, Int.reduceToNat, Int.reduceAdd, Int.reduceNeg, Int.reduceEq]
    exact fr_set rfl
  have hlen' : str.length ≤ 4000 := by
    have := of_decide_eq_false hlen
    omega
  obtain ⟨o1, o2, o3⟩ := resB_own str
  have hr := rparse_fn str (by omega) o1
  have hp := parse_fn str (by omega) (by rw [res_eq]; exact o1)
  rw [res_eq] at hp
  have sb := sameB_fn true true 0 0 (resB str).1 (resB str).2.1 o2 o3
  generalize (resB str).1 = n at hr hp sb
  generalize (resB str).2.1 = l at hr hp sb
  generalize (resB str).2.2 = e at hr hp
  simp only [go_sem, Nat.reduceEqDiff, reduceIte, Nat.reduceAdd, Nat.reduceMul, Nat.reduceLeDiff, Int.reduceLT, Int.reduceLE, Int.reduceToNat, Int.reduceAdd, Int.reduceNeg, Int.reduceEq, hlen]
  refine wx_fn hp (by simp only [go_sem]) ?_
  simp only [go_sem, Nat.reduceEqDiff, reduceIte, Nat.reduceAdd, Nat.reduceMul, Nat.reduceLeDiff, Int.reduceLT, Int.reduceLE, Int.reduceToNat, Int.reduceAdd, Int.reduceNeg, Int.reduceEq]
  refine wx_fn hr (by simp only [go_sem]) ?_
  simp only [go_sem, Nat.reduceEqDiff, reduceIte, Nat.reduceAdd, Nat.reduceMul, Nat.reduceLeDiff, Int.reduceLT, Int.reduceLE, Int.reduceToNat, Int.reduceAdd, Int.reduceNeg, Int.reduceEq, beq_self_eq_true]
  refine wx_fn sb (by simp only [go_sem]) ?_
  simp only [go_sem, Nat.reduceEqDiff, reduceIte, Nat.reduceAdd, Nat.reduceMul, Nat.reduceLeDiff, Int.reduceLT, Int.reduceLE, Int.reduceToNat, Int.reduceAdd, Int.reduceNeg, Int.reduceEq]
  refine wx_fn awake_fn (by simp only [go_sem]) ?_
  simp only [go_sem, Nat.reduceEqDiff, reduceIte, Nat.reduceAdd, Nat.reduceMul, Nat.reduceLeDiff, Int.reduceLT, Int.reduceLE, Int.reduceToNat, Int.reduceAdd, Int.reduceNeg, Int.reduceEq]
  exact fr_set rfl
end Go.Proofs.YtlehfgdhebapeaaGreatDoor.KM
