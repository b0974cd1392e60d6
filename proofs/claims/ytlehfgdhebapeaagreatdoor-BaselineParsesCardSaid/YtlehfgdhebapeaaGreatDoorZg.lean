/- Walks: one line of a baseline's text, read by both parsers. -/
import Derived.Test.YtlehfgdhebapeaaGreatDoorZf
set_option linter.all false
namespace Go.Proofs.YtlehfgdhebapeaaGreatDoor.KM
open Go
theorem splitN_some {s : List UInt8} {n : Nat} (h : s.length < 4294967281) (hn : 1 ≤ n ∧ n ≤ 9223372036854775807) : splitNS [.str s, .str [32], .int .i64 (n : Int)] = some (.lst 0 ((flds n s).map fun x => [V.str x])) := by
  unfold splitNS
  simp only
  rw [if_pos ⟨by simp, h, by omega, by omega⟩, Int.toNat_natCast]
  unfold flds spl
  rw [List.map_map]
  rfl
theorem rd_at {s : St} {ob k g z off : Nat} {cs : List V} {c : V} {e : Env} {x : Nat} (q : s[ob]? = some (.row cs k g z)) (hc : cs[off]? = some c) (he : e.get x = .ptr ob g off := by rfl) : evalOp (.load 1 true (.t x)) e s = some (c, s) := by
  have := lo2_at (e := k) (g := g) (z := z) hc
  simp only [evalOp, src, he, load_p, q, this, Option.map_some]
theorem flds_len {n : Nat} {s : List UInt8} : ∀ x ∈ flds n s, x.length ≤ s.length := by
  intro x hx
  unfold flds spl at hx
  obtain ⟨b, hb, rfl⟩ := List.mem_map.1 hx
  exact splitB_sizes _ _ _ b hb
theorem atoi_t {s : List UInt8} (h : okA s = true) (hl : s.length ≤ 281474976710656) : atoiS [.str s] = some (.tup [.int .i64 (numA s), .nili]) := by
  unfold atoiS
  simp only
  rw [if_pos hl]
  unfold okA at h
  unfold numA
  split at h
  · rename_i v hv
    rw [hv]
  · cases h
theorem atoi_f {s : List UInt8} (h : okA s = false) (hl : s.length ≤ 281474976710656) : atoiS [.str s] = some (.tup [.int .i64 (numA s), .ifc]) := by
  unfold atoiS
  simp only
  rw [if_pos hl]
  unfold okA at h
  unfold numA
  split at h
  · cases h
  · rename_i hn
    cases hA : Lib.atoiAll s
    case ok v => exact absurd hA (hn v)
    all_goals rfl
/-- whether the number is one or not -/
theorem atoi_v (s : List UInt8) (hl : s.length ≤ 281474976710656) : ∃ e, atoiS [.str s] = some (.tup [.int .i64 (numA s), e]) ∧ (e = .nili ∨ e = .ifc) := by
  cases h : okA s
  · exact ⟨_, atoi_f h hl, .inr rfl⟩
  · exact ⟨_, atoi_t h hl, .inl rfl⟩
def After (s0 s : St) (b : Nat) (n : Int) (l : List Ent) : Prop := Cl s ∧ s0.length ≤ s.length ∧ (∀ j, j < b → s[j]? = s0[j]?) ∧ ∃ u L, s[b]? = some (.row [.int .i64 n, u] 61 0 0) ∧ PG s (b + 1) u L ∧ L.map (·.2) = l
theorem lineA_no {l : List Ent} {s : List UInt8} (h : (flds 4 s).length ≠ 4) : lineA l s = none := by
  unfold lineA
  split
  · rename_i he
    rw [he] at h
    simp at h
  · rfl
theorem last_of {L : List (V × Ent)} {l : List Ent} (h : L.map (·.2) = l) (hn : l ≠ []) : ∃ M p, L = M ++ [p] ∧ l = M.map (·.2) ++ [p.2] := by
  have hL : L ≠ [] := by rintro rfl; exact hn h.symm
  refine ⟨L.dropLast, L.getLast hL, (List.dropLast_concat_getLast hL).symm, ?_⟩
  rw [← h]
  conv => lhs; rw [← List.dropLast_concat_getLast hL]
  simp
theorem parseLine_th {b : Nat} {s : St} {n : Int} {u : V} {L : List (V × Ent)} {l : List Ent} (line : List UInt8) (hln : line.length ≤ 1000000) (hc : Cl s) (hs : s[b]? = some (.row [.int .i64 n, u] 61 0 0)) (hg : PG s (b + 1) u L) (hL : L.map (·.2) = l) (hb : l.length ≤ 1000000) (hbs : ∀ x ∈ l, x.sites.length ≤ 1000000) :
    (∀ l', lineA l line = some l' → ∃ s', Th TT PT 60 [.ptr b 0 0, .str line] s (.bool true) s' ∧ After s s' b n l') ∧ (lineA l line = none → ∃ s', Th TT PT 60 [.ptr b 0 0, .str line] s (.bool false) s' ∧ Cl s' ∧ ∀ j, j < s.length → s'[j]? = s[j]?) := by
  have hbl := (List.getElem?_eq_some_iff.1 hs).1
  have hsp := splitN_some (n := 4) (s := line) (by omega) (by omega)
  by_cases h4 : (flds 4 line).length = 4
  rotate_left
  · have hA := lineA_no (l := l) h4
    have hd : (((flds 4 line).length : Int) != 4) = true := by simp; omega
    refine ⟨(fun l' h => by rw [hA] at h; cases h), fun _ => ⟨s, Th_all T60 rfl ?_ rfl rfl (Nat.le_refl _) hc, hc, fun _ _ => rfl⟩⟩
    simp only [go_sem, Nat.reduceEqDiff, reduceIte, Nat.reduceAdd, Nat.reduceMul, Nat.reduceLeDiff, Int.reduceLT, Int.reduceLE, Int.reduceToNat, Int.reduceAdd, Int.reduceNeg, Int.reduceEq]
    refine wx_pr P104 (by simp only [go_sem]) hsp ?_
    simp only [go_sem, Nat.reduceEqDiff, reduceIte, Nat.reduceAdd, Nat.reduceMul, Nat.reduceLeDiff, Int.reduceLT, Int.reduceLE, Int.reduceToNat, Int.reduceAdd, Int.reduceNeg, Int.reduceEq, List.length_map, hd]
    exact ⟨rfl, rfl⟩
  obtain ⟨w, x1, x2, x3, hf⟩ : ∃ w x1 x2 x3, flds 4 line = [w, x1, x2, x3] := by
    match flds 4 line, h4 with
    | [w, x1, x2, x3], _ => exact ⟨w, x1, x2, x3, rfl⟩
  have hfl := flds_len (n := 4) (s := line)
  rw [hf] at hfl hsp
  simp only [List.map_cons, List.map_nil] at hsp
  have l1 : x1.length ≤ 281474976710656 := by have := hfl x1 (by simp); omega
  have l2 : x2.length ≤ 281474976710656 := by have := hfl x2 (by simp); omega
  have l3 : x3.length ≤ 281474976710656 := by have := hfl x3 (by simp); omega
  clear hfl
  have hc2 : ∀ a b c : Int, Cl (s ++ [.row [.int .i64 a, .int .i64 b, .int .i64 c] 175 0 0]) := fun a b c => cl_push hc (by simp [Ob.refs, refsL, V.refs])
  have hsJ : ∀ J : St, (s ++ J)[b]? = some (.row [.int .i64 n, u] 61 0 0) := fun J => get_app_some hs
  cases hw : (w == [101, 110, 116, 114, 121])
  · have hw' : ¬ w = [101, 110, 116, 114, 121] := by simpa using hw
    cases hw2 : (w == [115, 105, 116, 101])
    · have hw2' : ¬ w = [115, 105, 116, 101] := by simpa using hw2
      have hA : lineA l line = none := by
        unfold lineA
        rw [hf]
        simp only
        rw [if_neg hw', if_neg hw2']
      refine ⟨(fun l' h => by rw [hA] at h; cases h), fun _ => ⟨s, Th_all T60 rfl ?_ rfl rfl (Nat.le_refl _) hc, hc, fun _ _ => rfl⟩⟩
      simp only [go_sem, Nat.reduceEqDiff, reduceIte, Nat.reduceAdd, Nat.reduceMul, Nat.reduceLeDiff, Int.reduceLT, Int.reduceLE, Int.reduceToNat, Int.reduceAdd, Int.reduceNeg, Int.reduceEq]
      refine wx_pr P104 (by simp only [go_sem]) hsp ?_
      simp only [go_sem, Nat.reduceEqDiff, reduceIte, Nat.reduceAdd, Nat.reduceMul, Nat.reduceLeDiff, Int.reduceLT, Int.reduceLE, Int.reduceToNat, Int.reduceAdd, Int.reduceNeg, Int.reduceEq, Int.reduceBNe, hw, hw2]
      exact ⟨rfl, rfl⟩
    · have hw2' : w = [115, 105, 116, 101] := by simpa using hw2
      have hA : lineA l line = if okA x1 = true then (if l = [] then none else some (addSite (x2, x3, numA x1) l)) else none := by
        unfold lineA
        rw [hf]
        simp only
        rw [if_neg hw', if_pos hw2']
      rw [hA]
      cases o1 : okA x1
      · have a1 := atoi_f o1 l1
        refine ⟨(fun l' h => by cases h), fun _ => ⟨s, Th_all T60 rfl ?_ rfl rfl (Nat.le_refl _) hc, hc, fun _ _ => rfl⟩⟩
        simp only [go_sem, Nat.reduceEqDiff, reduceIte, Nat.reduceAdd, Nat.reduceMul, Nat.reduceLeDiff, Int.reduceLT, Int.reduceLE, Int.reduceToNat, Int.reduceAdd, Int.reduceNeg, Int.reduceEq]
        refine wx_pr P104 (by simp only [go_sem]) hsp ?_
        simp only [go_sem, Nat.reduceEqDiff, reduceIte, Nat.reduceAdd, Nat.reduceMul, Nat.reduceLeDiff, Int.reduceLT, Int.reduceLE, Int.reduceToNat, Int.reduceAdd, Int.reduceNeg, Int.reduceEq, Int.reduceBNe, hw, hw2]
        refine wx_pr P59 (by simp only [go_sem]) a1 ?_
        simp only [go_sem, Nat.reduceEqDiff, reduceIte, Nat.reduceAdd, Nat.reduceMul, Nat.reduceLeDiff, Int.reduceLT, Int.reduceLE, Int.reduceToNat, Int.reduceAdd, Int.reduceNeg, Int.reduceEq]
        exact ⟨rfl, rfl⟩
      · have a1 := atoi_t o1 l1
        rw [if_pos rfl]
        by_cases hl0 : l = []
        · rw [if_pos hl0]
          have hu : lenV u = some (.int .i64 0) := by
            have := gw_len hg.1
            rw [List.length_map] at this
            have hL0 : L = [] := by rw [hl0] at hL; simpa using hL
            rw [this, hL0]
            rfl
          refine ⟨(fun l' h => by cases h), fun _ => ⟨s, Th_all T60 rfl ?_ rfl rfl (Nat.le_refl _) hc, hc, fun _ _ => rfl⟩⟩
          simp only [go_sem, Nat.reduceEqDiff, reduceIte, Nat.reduceAdd, Nat.reduceMul, Nat.reduceLeDiff, Int.reduceLT, Int.reduceLE, Int.reduceToNat, Int.reduceAdd, Int.reduceNeg, Int.reduceEq]
          refine wx_pr P104 (by simp only [go_sem]) hsp ?_
          simp only [go_sem, Nat.reduceEqDiff, reduceIte, Nat.reduceAdd, Nat.reduceMul, Nat.reduceLeDiff, Int.reduceLT, Int.reduceLE, Int.reduceToNat, Int.reduceAdd, Int.reduceNeg, Int.reduceEq, Int.reduceBNe, hw, hw2]
          refine wx_pr P59 (by simp only [go_sem]) a1 ?_
          simp only [go_sem, Nat.reduceEqDiff, reduceIte, Nat.reduceAdd, Nat.reduceMul, Nat.reduceLeDiff, Int.reduceLT, Int.reduceLE, Int.reduceToNat, Int.reduceAdd, Int.reduceNeg, Int.reduceEq, hs, hu, beq_self_eq_true]
          exact ⟨rfl, rfl⟩
        · rw [if_neg hl0]
          obtain ⟨M, p, rfl, hl⟩ := last_of hL hl0
          have hpb : p.2.sites.length ≤ 1000000 := hbs p.2 (by rw [hl]; simp)
          have hMl : M.length + 1 ≤ 1000000 := by rw [hl] at hb; simpa using hb
          obtain ⟨iu, g, w', s1, rfl, hlo, ho, e1, hwc, ho1, k1, k2, g1, c1⟩ := pg_site hg (by omega) hc (x2, x3, numA x1) hpb
          have hq1 : s1[b]? = some (.row [.int .i64 n, .sl iu g 0 (M.length + 1) 4 true] 61 0 0) := (k2 b (by omega)).trans hs
          have hcl := flatL_len (nrows_len (M ++ [p]))
          rw [List.length_map, List.length_append, List.length_singleton] at hcl
          have hc1 := lo2_at (e := 131) (g := g) (z := 0) (nflat_1 (L := M ++ [p]) (i := M.length) (p := p) (by simp))
          have wm : IntKind.i64.wrap (((M.length + 1 : Nat) : Int) - 1) = (M.length : Int) := by rw [wrap64 (by omega)]; omega
          have hz : (((M.length + 1 : Nat) : Int) == 0) = false := by simp; omega
          have hle : (M.length * 4 + 1 + 1 ≤ ((M ++ [p]).map nrow).flatten.length) = True := eq_true (by omega)
          simp only [krow] at e1
          refine ⟨fun l' h => ⟨_, Th_all T60 rfl ?_ rfl rfl (by simpa using k1) c1, c1, by simpa using k1, fun j hj => by rw [List.getElem?_set_ne (by omega)]; exact k2 j (by omega), _, _, by rw [List.getElem?_set_ne (by omega)]; exact hq1, g1, ?_⟩, fun h => by cases h⟩
          · simp only [go_sem, Nat.reduceEqDiff, reduceIte, Nat.reduceAdd, Nat.reduceMul, Nat.reduceLeDiff, Int.reduceLT, Int.reduceLE, Int.reduceToNat, Int.reduceAdd, Int.reduceNeg, Int.reduceEq]
            refine wx_pr P104 (by simp only [go_sem]) hsp ?_
            simp only [go_sem, Nat.reduceEqDiff, reduceIte, Nat.reduceAdd, Nat.reduceMul, Nat.reduceLeDiff, Int.reduceLT, Int.reduceLE, Int.reduceToNat, Int.reduceAdd, Int.reduceNeg, Int.reduceEq, Int.reduceBNe, hw, hw2]
            refine wx_pr P59 (by simp only [go_sem]) a1 ?_
            simp only [go_sem, Nat.reduceEqDiff, reduceIte, Nat.reduceAdd, Nat.reduceMul, Nat.reduceLeDiff, Int.reduceLT, Int.reduceLE, Int.reduceToNat, Int.reduceAdd, Int.reduceNeg, Int.reduceEq, hs, hz]
            refine w_drw (by kernel_rfl) ?_
            simp only [go_sem, Nat.reduceEqDiff, reduceIte, Nat.reduceAdd, Nat.reduceMul, Nat.reduceLeDiff, Int.reduceLT, Int.reduceLE, Int.reduceToNat, Int.reduceAdd, Int.reduceNeg, Int.reduceEq, hs, wm, iad_nat (show M.length < M.length + 1 by omega)]
            refine w_drw (by kernel_rfl) ?_
            simp only [go_sem, Nat.reduceEqDiff, reduceIte, Nat.reduceAdd, Nat.reduceMul, Nat.reduceLeDiff, Int.reduceLT, Int.reduceLE, Int.reduceToNat, Int.reduceAdd, Int.reduceNeg, Int.reduceEq, ho, hc1, e1]
            refine wgk_ef' (by repeat (first | exact trivial | refine ⟨.inl (by rfl), ?_⟩ | refine ⟨by rfl, ?_⟩ | refine ⟨.inr ⟨by rfl, by rfl⟩, ?_⟩)) (by repeat (first | exact trivial | refine ⟨.inl (by rfl), ?_⟩ | refine ⟨by rfl, ?_⟩ | refine ⟨.inr ⟨by rfl, by rfl⟩, ?_⟩)) ?_
            simp only [go_sem, Nat.reduceEqDiff, reduceIte, Nat.reduceAdd, Nat.reduceMul, Nat.reduceLeDiff, Int.reduceLT, Int.reduceLE, Int.reduceToNat, Int.reduceAdd, Int.reduceNeg, Int.reduceEq, ho1, hle, cells1 hwc, hwc]
            refine wgk_ef' (by repeat (first | exact trivial | refine ⟨.inl (by rfl), ?_⟩ | refine ⟨by rfl, ?_⟩ | refine ⟨.inr ⟨by rfl, by rfl⟩, ?_⟩)) (by repeat (first | exact trivial | refine ⟨.inl (by rfl), ?_⟩ | refine ⟨by rfl, ?_⟩ | refine ⟨.inr ⟨by rfl, by rfl⟩, ?_⟩)) ?_
            simp only [go_sem, Nat.reduceEqDiff, reduceIte, Nat.reduceAdd, Nat.reduceMul, Nat.reduceLeDiff, Int.reduceLT, Int.reduceLE, Int.reduceToNat, Int.reduceAdd, Int.reduceNeg, Int.reduceEq]
            exact ⟨rfl, rfl⟩
          · cases h
            rw [hl, addSite_app]
            simp
  · have hw' : w = [101, 110, 116, 114, 121] := by simpa using hw
    have hA : lineA l line = if (okA x1 && (okA x2 && okA x3)) = true then some (l ++ [nEnt (numA x1) (numA x2) (numA x3)]) else none := by
      unfold lineA
      rw [hf]
      simp only
      rw [if_pos hw']
    rw [hA]
    have bad : ∀ a b c : Int, Th TT PT 60 [.ptr b.toNat 0 0, .str line] s (.bool false) (s ++ [.row [.int .i64 a, .int .i64 b, .int .i64 c] 175 0 0]) → True := fun _ _ _ _ => trivial
    clear bad
    have keepJ : ∀ J : St, ∀ j, j < s.length → (s ++ J)[j]? = s[j]? := fun J j hj => List.getElem?_append_left hj
    cases o1 : okA x1
    · have a1 := atoi_f o1 l1
      refine ⟨(fun l' h => by cases h), fun _ => ⟨_, Th_all T60 rfl ?_ rfl rfl (by simp) (hc2 0 0 0), hc2 0 0 0, keepJ _⟩⟩
      simp only [go_sem, Nat.reduceEqDiff, reduceIte, Nat.reduceAdd, Nat.reduceMul, Nat.reduceLeDiff, Int.reduceLT, Int.reduceLE, Int.reduceToNat, Int.reduceAdd, Int.reduceNeg, Int.reduceEq]
      refine wx_pr P104 (by simp only [go_sem]) hsp ?_
      simp only [go_sem, Nat.reduceEqDiff, reduceIte, Nat.reduceAdd, Nat.reduceMul, Nat.reduceLeDiff, Int.reduceLT, Int.reduceLE, Int.reduceToNat, Int.reduceAdd, Int.reduceNeg, Int.reduceEq, Int.reduceBNe, hw]
      refine w_rep (by delta lp60_0; exact rfl) ?_
      simp only [go_sem, Nat.reduceEqDiff, reduceIte, Nat.reduceAdd, Nat.reduceMul, Nat.reduceLeDiff, Int.reduceLT, Int.reduceLE, Int.reduceToNat, Int.reduceAdd, Int.reduceNeg, Int.reduceEq]
      refine wx_pr P59 (by simp only [go_sem]) a1 ?_
      simp only [go_sem, Nat.reduceEqDiff, reduceIte, Nat.reduceAdd, Nat.reduceMul, Nat.reduceLeDiff, Int.reduceLT, Int.reduceLE, Int.reduceToNat, Int.reduceAdd, Int.reduceNeg, Int.reduceEq]
      exact ⟨rfl, rfl⟩
    have a1 := atoi_t o1 l1
    cases o2 : okA x2
    · have a2 := atoi_f o2 l2
      refine ⟨(fun l' h => by cases h), fun _ => ⟨_, Th_all T60 rfl ?_ rfl rfl (by simp) (hc2 (numA x1) 0 0), hc2 _ _ _, keepJ _⟩⟩
      simp only [go_sem, Nat.reduceEqDiff, reduceIte, Nat.reduceAdd, Nat.reduceMul, Nat.reduceLeDiff, Int.reduceLT, Int.reduceLE, Int.reduceToNat, Int.reduceAdd, Int.reduceNeg, Int.reduceEq]
      refine wx_pr P104 (by simp only [go_sem]) hsp ?_
      simp only [go_sem, Nat.reduceEqDiff, reduceIte, Nat.reduceAdd, Nat.reduceMul, Nat.reduceLeDiff, Int.reduceLT, Int.reduceLE, Int.reduceToNat, Int.reduceAdd, Int.reduceNeg, Int.reduceEq, Int.reduceBNe, hw]
      refine w_rep (by delta lp60_0; exact rfl) ?_
      simp only [go_sem, Nat.reduceEqDiff, reduceIte, Nat.reduceAdd, Nat.reduceMul, Nat.reduceLeDiff, Int.reduceLT, Int.reduceLE, Int.reduceToNat, Int.reduceAdd, Int.reduceNeg, Int.reduceEq]
      refine wx_pr P59 (by simp only [go_sem]) a1 ?_
      simp only [go_sem, Nat.reduceEqDiff, reduceIte, Nat.reduceAdd, Nat.reduceMul, Nat.reduceLeDiff, Int.reduceLT, Int.reduceLE, Int.reduceToNat, Int.reduceAdd, Int.reduceNeg, Int.reduceEq]
      refine w_rep (by delta lp60_0; exact rfl) ?_
      simp only [go_sem, Nat.reduceEqDiff, reduceIte, Nat.reduceAdd, Nat.reduceMul, Nat.reduceLeDiff, Int.reduceLT, Int.reduceLE, Int.reduceToNat, Int.reduceAdd, Int.reduceNeg, Int.reduceEq]
      refine wx_pr P59 (by simp only [go_sem]) a2 ?_
      simp only [go_sem, Nat.reduceEqDiff, reduceIte, Nat.reduceAdd, Nat.reduceMul, Nat.reduceLeDiff, Int.reduceLT, Int.reduceLE, Int.reduceToNat, Int.reduceAdd, Int.reduceNeg, Int.reduceEq]
      exact ⟨rfl, rfl⟩
    have a2 := atoi_t o2 l2
    cases o3 : okA x3
    · have a3 := atoi_f o3 l3
      refine ⟨(fun l' h => by cases h), fun _ => ⟨_, Th_all T60 rfl ?_ rfl rfl (by simp) (hc2 (numA x1) (numA x2) 0), hc2 _ _ _, keepJ _⟩⟩
      simp only [go_sem, Nat.reduceEqDiff, reduceIte, Nat.reduceAdd, Nat.reduceMul, Nat.reduceLeDiff, Int.reduceLT, Int.reduceLE, Int.reduceToNat, Int.reduceAdd, Int.reduceNeg, Int.reduceEq]
      refine wx_pr P104 (by simp only [go_sem]) hsp ?_
      simp only [go_sem, Nat.reduceEqDiff, reduceIte, Nat.reduceAdd, Nat.reduceMul, Nat.reduceLeDiff, Int.reduceLT, Int.reduceLE, Int.reduceToNat, Int.reduceAdd, Int.reduceNeg, Int.reduceEq, Int.reduceBNe, hw]
      refine w_rep (by delta lp60_0; exact rfl) ?_
      simp only [go_sem, Nat.reduceEqDiff, reduceIte, Nat.reduceAdd, Nat.reduceMul, Nat.reduceLeDiff, Int.reduceLT, Int.reduceLE, Int.reduceToNat, Int.reduceAdd, Int.reduceNeg, Int.reduceEq]
      refine wx_pr P59 (by simp only [go_sem]) a1 ?_
      simp only [go_sem, Nat.reduceEqDiff, reduceIte, Nat.reduceAdd, Nat.reduceMul, Nat.reduceLeDiff, Int.reduceLT, Int.reduceLE, Int.reduceToNat, Int.reduceAdd, Int.reduceNeg, Int.reduceEq]
      refine w_rep (by delta lp60_0; exact rfl) ?_
      simp only [go_sem, Nat.reduceEqDiff, reduceIte, Nat.reduceAdd, Nat.reduceMul, Nat.reduceLeDiff, Int.reduceLT, Int.reduceLE, Int.reduceToNat, Int.reduceAdd, Int.reduceNeg, Int.reduceEq]
      refine wx_pr P59 (by simp only [go_sem]) a2 ?_
      simp only [go_sem, Nat.reduceEqDiff, reduceIte, Nat.reduceAdd, Nat.reduceMul, Nat.reduceLeDiff, Int.reduceLT, Int.reduceLE, Int.reduceToNat, Int.reduceAdd, Int.reduceNeg, Int.reduceEq]
      refine w_rep (by delta lp60_0; exact rfl) ?_
      simp only [go_sem, Nat.reduceEqDiff, reduceIte, Nat.reduceAdd, Nat.reduceMul, Nat.reduceLeDiff, Int.reduceLT, Int.reduceLE, Int.reduceToNat, Int.reduceAdd, Int.reduceNeg, Int.reduceEq]
      refine wx_pr P59 (by simp only [go_sem]) a3 ?_
      simp only [go_sem, Nat.reduceEqDiff, reduceIte, Nat.reduceAdd, Nat.reduceMul, Nat.reduceLeDiff, Int.reduceLT, Int.reduceLE, Int.reduceToNat, Int.reduceAdd, Int.reduceNeg, Int.reduceEq]
      exact ⟨rfl, rfl⟩
    have a3 := atoi_t o3 l3
    have hg2 : PG (s ++ [.row [.int .i64 (numA x1), .int .i64 (numA x2), .int .i64 (numA x3)] 175 0 0]) (b + 1) u L := pg_keep hg fun j _ hj => keepJ _ j hj
    obtain ⟨u', s1, e1, g1, k1, c1, f1⟩ := pg_ent hg2 (by simp; omega) (hc2 _ _ _) (by rw [← hL] at hb; simpa using hb) (numA x1) (numA x2) (numA x3)
    have huc := gw_cell g1.1
    have q1 : s1[b]? = some (.row [.int .i64 n, u] 61 0 0) := (f1 b (by omega)).trans (hsJ _)
    have kl : s.length + 1 ≤ s1.length := by simpa using k1
    have c2 : Cl (s1.set b (.row [.int .i64 n, u'] 61 0 0)) := cl_set c1 fun i hi => by
      simp only [Ob.refs, refsL, V.refs, List.append_nil, List.nil_append] at hi
      exact gw_refs g1.1 i hi
    refine ⟨fun l' h => ⟨_, Th_all T60 rfl ?_ rfl rfl (by simp; omega) c2, c2, by simp; omega, fun j hj => by rw [List.getElem?_set_ne (by omega), f1 j (by omega)]; exact keepJ _ j (by omega), u', _, List.getElem?_set_self (by omega), pg_keep g1 fun j hj _ => by rw [List.getElem?_set_ne (by omega)], ?_⟩, fun h => by cases h⟩
    · simp only [go_sem, Nat.reduceEqDiff, reduceIte, Nat.reduceAdd, Nat.reduceMul, Nat.reduceLeDiff, Int.reduceLT, Int.reduceLE, Int.reduceToNat, Int.reduceAdd, Int.reduceNeg, Int.reduceEq]
      refine wx_pr P104 (by simp only [go_sem]) hsp ?_
      simp only [go_sem, Nat.reduceEqDiff, reduceIte, Nat.reduceAdd, Nat.reduceMul, Nat.reduceLeDiff, Int.reduceLT, Int.reduceLE, Int.reduceToNat, Int.reduceAdd, Int.reduceNeg, Int.reduceEq, Int.reduceBNe, hw]
      refine w_rep (by delta lp60_0; exact rfl) ?_
      simp only [go_sem, Nat.reduceEqDiff, reduceIte, Nat.reduceAdd, Nat.reduceMul, Nat.reduceLeDiff, Int.reduceLT, Int.reduceLE, Int.reduceToNat, Int.reduceAdd, Int.reduceNeg, Int.reduceEq]
      refine wx_pr P59 (by simp only [go_sem]) a1 ?_
      simp only [go_sem, Nat.reduceEqDiff, reduceIte, Nat.reduceAdd, Nat.reduceMul, Nat.reduceLeDiff, Int.reduceLT, Int.reduceLE, Int.reduceToNat, Int.reduceAdd, Int.reduceNeg, Int.reduceEq]
      refine w_rep (by delta lp60_0; exact rfl) ?_
      simp only [go_sem, Nat.reduceEqDiff, reduceIte, Nat.reduceAdd, Nat.reduceMul, Nat.reduceLeDiff, Int.reduceLT, Int.reduceLE, Int.reduceToNat, Int.reduceAdd, Int.reduceNeg, Int.reduceEq]
      refine wx_pr P59 (by simp only [go_sem]) a2 ?_
      simp only [go_sem, Nat.reduceEqDiff, reduceIte, Nat.reduceAdd, Nat.reduceMul, Nat.reduceLeDiff, Int.reduceLT, Int.reduceLE, Int.reduceToNat, Int.reduceAdd, Int.reduceNeg, Int.reduceEq]
      refine w_rep (by delta lp60_0; exact rfl) ?_
      simp only [go_sem, Nat.reduceEqDiff, reduceIte, Nat.reduceAdd, Nat.reduceMul, Nat.reduceLeDiff, Int.reduceLT, Int.reduceLE, Int.reduceToNat, Int.reduceAdd, Int.reduceNeg, Int.reduceEq]
      refine wx_pr P59 (by simp only [go_sem]) a3 ?_
      simp only [go_sem, Nat.reduceEqDiff, reduceIte, Nat.reduceAdd, Nat.reduceMul, Nat.reduceLeDiff, Int.reduceLT, Int.reduceLE, Int.reduceToNat, Int.reduceAdd, Int.reduceNeg, Int.reduceEq]
      refine w_rep (by delta lp60_0; exact rfl) ?_
      simp only [go_sem, Nat.reduceEqDiff, reduceIte, Nat.reduceAdd, Nat.reduceMul, Nat.reduceLeDiff, Int.reduceLT, Int.reduceLE, Int.reduceToNat, Int.reduceAdd, Int.reduceNeg, Int.reduceEq]
      refine w_drw (by kernel_rfl) ?_
      simp only [go_sem, Nat.reduceEqDiff, reduceIte, Nat.reduceAdd, Nat.reduceMul, Nat.reduceLeDiff, Int.reduceLT, Int.reduceLE, Int.reduceToNat, Int.reduceAdd, Int.reduceNeg, Int.reduceEq, hsJ]
      refine wgk_ef' (by repeat (first | exact trivial | refine ⟨.inl (by rfl), ?_⟩ | refine ⟨by rfl, ?_⟩ | refine ⟨.inr ⟨by rfl, by rfl⟩, ?_⟩)) ⟨.inl (by rfl), .inl (by rfl), .inl (by rfl), .inr ⟨rd_at (hsJ _) rfl, rd_at (hsJ _) rfl⟩, trivial⟩ ?_
      simp only [go_sem, Nat.reduceEqDiff, reduceIte, Nat.reduceAdd, Nat.reduceMul, Nat.reduceLeDiff, Int.reduceLT, Int.reduceLE, Int.reduceToNat, Int.reduceAdd, Int.reduceNeg, Int.reduceEq, e1]
      refine wgk_ef' (by repeat (first | exact trivial | refine ⟨.inl (by rfl), ?_⟩ | refine ⟨by rfl, ?_⟩ | refine ⟨.inr ⟨by rfl, by rfl⟩, ?_⟩)) (by repeat (first | exact trivial | refine ⟨.inl (by rfl), ?_⟩ | refine ⟨by rfl, ?_⟩ | refine ⟨.inr ⟨by rfl, by rfl⟩, ?_⟩)) ?_
      simp only [go_sem, Nat.reduceEqDiff, reduceIte, Nat.reduceAdd, Nat.reduceMul, Nat.reduceLeDiff, Int.reduceLT, Int.reduceLE, Int.reduceToNat, Int.reduceAdd, Int.reduceNeg, Int.reduceEq, q1, cells1 huc, huc]
      refine wgk_ef' (by repeat (first | exact trivial | refine ⟨.inl (by rfl), ?_⟩ | refine ⟨by rfl, ?_⟩ | refine ⟨.inr ⟨by rfl, by rfl⟩, ?_⟩)) (by repeat (first | exact trivial | refine ⟨.inl (by rfl), ?_⟩ | refine ⟨by rfl, ?_⟩ | refine ⟨.inr ⟨by rfl, by rfl⟩, ?_⟩)) ?_
      simp only [go_sem, Nat.reduceEqDiff, reduceIte, Nat.reduceAdd, Nat.reduceMul, Nat.reduceLeDiff, Int.reduceLT, Int.reduceLE, Int.reduceToNat, Int.reduceAdd, Int.reduceNeg, Int.reduceEq]
      exact ⟨rfl, rfl⟩
    · cases h
      rw [List.map_append, hL]
      rfl
end Go.Proofs.YtlehfgdhebapeaaGreatDoor.KM
