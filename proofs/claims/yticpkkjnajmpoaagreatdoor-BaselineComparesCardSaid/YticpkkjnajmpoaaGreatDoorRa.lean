/- Walks: the reference's Changes; changes that are the same. -/
import Derived.Test.YticpkkjnajmpoaaGreatDoorPx
set_option linter.all false
namespace Go.Proofs.YticpkkjnajmpoaaGreatDoor.KM
open Go
theorem lt_of_get0 {s : St} {x : Ob} (h : s[0]? = some x) : 1 ≤ s.length := (List.getElem?_eq_some_iff.1 h).1
/-- all entries of a baseline and of a run: first pass -/
def allI (b now : List Ent) (i : Nat) : List Ent := (now.take i).foldl (fun s e => insE e.own s) b
theorem allI_more {b now : List Ent} {i : Nat} {x : Ent} (h : now[i]? = some x) : allI b now (i + 1) = insE x.own (allI b now i) := by
  unfold allI
  rw [List.take_add_one, h]
  simp
theorem allI_inv {b now : List Ent} (h0 : ∀ x ∈ b, okV x) (hn : ∀ x ∈ now, okV x) : ∀ i, (allI b now i).length ≤ b.length + i ∧ ∀ x ∈ allI b now i, okV x
  | 0 => ⟨by simp [allI], by simpa [allI] using h0⟩
  | i + 1 => by
    obtain ⟨h1, h2⟩ := allI_inv h0 hn i
    cases hx : now[i]? with
    | none =>
      have : allI b now (i + 1) = allI b now i := by
        unfold allI
        rw [List.take_add_one, hx]
        simp
      rw [this]
      exact ⟨by omega, h2⟩
    | some x =>
      rw [allI_more hx]
      have hxm := hn x (List.mem_of_getElem? hx)
      refine ⟨?_, fun y hy => ?_⟩
      · have := insE_len (e := x.own) (l := allI b now i)
        omega
      · rcases insE_mem hy with rfl | hy
        · have := okV_num hxm
          exact okV_set hxm x.seen x.missed (by omega) (by omega) (by omega) (by omega)
        · exact h2 y hy
theorem rchg_loop1 (R0 : Ob) (z z' : Bool) (t t' : Nat) (b now : List Ent) (hb : ∀ x ∈ b, okV x) (hn : ∀ x ∈ now, okV x) (hbl : b.length ≤ 64) (hnl : now.length ≤ 64) (k : List It) (Q : Env → St → Prop)
    (h : ∀ s z2 t2, W TT PT k [(1, SL z' t' (now.map Ent.row)), (2, .ptr 0 0 0), (5, SL z2 t2 ((allI b now now.length).map Ent.row)), (28, SL z' t' (now.map Ent.row)), (29, .int .i64 now.length), (30, .int .i64 now.length)] (R0 :: s) Q) :
    W TT PT (.l [1, 2, 5, 28, 29, 30] lp29_0 :: .b 0 :: k) [(1, SL z' t' (now.map Ent.row)), (2, .ptr 0 0 0), (5, SL z t (b.map Ent.row)), (28, SL z' t' (now.map Ent.row)), (29, .int .i64 now.length), (30, .int .i64 0)] [R0] Q := by
  refine loop_w (α := Nat × Bool × Nat × St) (fun a => now.length - a.1) (fun a => [(1, SL z' t' (now.map Ent.row)), (2, .ptr 0 0 0), (5, SL a.2.1 a.2.2.1 ((allI b now a.1).map Ent.row)), (28, SL z' t' (now.map Ent.row)), (29, .int .i64 now.length), (30, .int .i64 a.1)]) (fun a => R0 :: a.2.2.2)
    (fun a => a.1 ≤ now.length) ?_ (0, z, t, []) (by simp)
  rintro ⟨i, z2, t2, s⟩ hi ih
  simp only at hi ih
  refine w_rep (by delta lp29_0; exact rfl) ?_
  rcases Nat.lt_or_ge i now.length with hlt | hge
  · obtain ⟨x, hx, -, hm⟩ := at_some hlt
    have hxl := entB_len (hn x hm)
    obtain ⟨m1, m2⟩ := allI_inv hb hn i
    have hp := place_fn z2 t2 (allI b now i) x (by omega) (okE_of m2) (by omega)
    have hq := put_fn z2 t2 (allI b now i) (placeE x (allI b now i)) x (placeE_le ..) (by omega) (by omega)
    have hmore := allI_more (b := b) hx
    cases ht : thereE x (allI b now i)
    · rw [ht] at hp
      have hins : insE x.own (allI b now i) = (allI b now i).take (placeE x (allI b now i)) ++ x.own :: (allI b now i).drop (placeE x (allI b now i)) := by
        unfold insE
        rw [thereE_own, placeE_own, ht]
        rfl
      rw [← hins, ← hmore] at hq
      simp only [ent_def] at hp hq
      simp only [go_sem, Nat.reduceEqDiff, reduceIte, Nat.reduceAdd, Nat.reduceMul, Nat.reduceLeDiff, Int.reduceLT, Int.reduceLE, Int.reduceToNat, Int.reduceAdd, Int.reduceNeg, Int.reduceEq, lt_t hlt, List.getElem?_map, hx]
      refine wx_fn hp (by simp only [go_sem]) ?_
      simp only [go_sem, Nat.reduceEqDiff, reduceIte, Nat.reduceAdd, Nat.reduceMul, Nat.reduceLeDiff, Int.reduceLT, Int.reduceLE, Int.reduceToNat, Int.reduceAdd, Int.reduceNeg, Int.reduceEq]
      refine wx_fn hq (by simp only [go_sem]) ?_
      simp only [go_sem, Nat.reduceEqDiff, reduceIte, Nat.reduceAdd, Nat.reduceMul, Nat.reduceLeDiff, Int.reduceLT, Int.reduceLE, Int.reduceToNat, Int.reduceAdd, Int.reduceNeg, Int.reduceEq, inc64 (show i < 9223372036854775807 by omega)]
      exact W_keep (ih (i + 1, true, 0, _) (by simp; omega) (by simp; omega)) rfl
    · rw [ht] at hp
      have hins : allI b now (i + 1) = allI b now i := by
        rw [hmore]
        unfold insE
        rw [thereE_own, ht, if_pos rfl]
      simp only [ent_def] at hp
      simp only [go_sem, Nat.reduceEqDiff, reduceIte, Nat.reduceAdd, Nat.reduceMul, Nat.reduceLeDiff, Int.reduceLT, Int.reduceLE, Int.reduceToNat, Int.reduceAdd, Int.reduceNeg, Int.reduceEq, lt_t hlt, List.getElem?_map, hx]
      refine wx_fn hp (by simp only [go_sem]) ?_
      simp only [go_sem, Nat.reduceEqDiff, reduceIte, Nat.reduceAdd, Nat.reduceMul, Nat.reduceLeDiff, Int.reduceLT, Int.reduceLE, Int.reduceToNat, Int.reduceAdd, Int.reduceNeg, Int.reduceEq, inc64 (show i < 9223372036854775807 by omega)]
      rw [← hins]
      exact W_keep (ih (i + 1, z2, t2, _) (by simp; omega) (by simp; omega)) rfl
  · obtain rfl : i = now.length := by omega
    simp only [go_sem, Nat.reduceEqDiff, reduceIte, Nat.reduceAdd, Nat.reduceMul, Nat.reduceLeDiff, Int.reduceLT, Int.reduceLE, Int.reduceToNat, Int.reduceAdd, Int.reduceNeg, Int.reduceEq, lt_f hge]
    exact h s z2 t2
/-! second pass: one change for each entry -/
theorem rchg_loop2 (n : Int) (zb z' : Bool) (tb t' : Nat) (z5 : Bool) (t5 : Nat) (b now al : List Ent) (hb : ∀ x ∈ b, okV x) (hn : ∀ x ∈ now, okV x) (ha : ∀ x ∈ al, okV x) (hbl : b.length ≤ 64) (hnl : now.length ≤ 64) (hal : al.length ≤ 200) (k : List It) (Q : Env → St → Prop)
    (h : ∀ s u, GW s 5 59 1 u ((al.map (chgR b now)).map crow) → W TT PT k [(1, SL z' t' (now.map Ent.row)), (2, .ptr 0 0 0), (10, u), (47, SL z5 t5 (al.map Ent.row)), (48, .int .i64 al.length), (49, .int .i64 al.length)] s Q)
    (s : St) (h0 : s[0]? = some (.row [.int .i64 n, SL zb tb (b.map Ent.row)] 25 0 0)) :
    W TT PT (.l [1, 2, 10, 47, 48, 49] lp29_1 :: .b 2 :: k) [(1, SL z' t' (now.map Ent.row)), (2, .ptr 0 0 0), (10, .nils), (47, SL z5 t5 (al.map Ent.row)), (48, .int .i64 al.length), (49, .int .i64 0)] s Q := by
  refine loop_w (α := Nat × V × St) (fun a => al.length - a.1) (fun a => [(1, SL z' t' (now.map Ent.row)), (2, .ptr 0 0 0), (10, a.2.1), (47, SL z5 t5 (al.map Ent.row)), (48, .int .i64 al.length), (49, .int .i64 a.1)]) (fun a => a.2.2)
    (fun a => a.1 ≤ al.length ∧ a.2.2[0]? = some (.row [.int .i64 n, SL zb tb (b.map Ent.row)] 25 0 0) ∧ GW a.2.2 5 59 1 a.2.1 (((al.take a.1).map (chgR b now)).map crow)) ?_ (0, .nils, s) ⟨by simp, h0, gw_nil⟩
  clear h0 s
  rintro ⟨i, u, s⟩ ⟨hi, h0, hg⟩ ih
  simp only at hi h0 hg ih
  refine w_rep (by delta lp29_1; exact rfl) ?_
  rcases Nat.lt_or_ge i al.length with hlt | hge
  · obtain ⟨x, hx, -, hm⟩ := at_some hlt
    have hxl := entB_len (ha x hm)
    have hs1 : 1 ≤ s.length := lt_of_get0 h0
    have hp1 := place_fn zb tb b x (by omega) (okE_of hb) (by omega)
    have hp2 := place_fn z' t' now x (by omega) (okE_of hn) (by omega)
    have hc1 := copied_fn x (by omega)
    have htk : al.take (i + 1) = al.take i ++ [x] := by rw [List.take_add_one, hx]; rfl
    have g0 : ∀ J : St, (s ++ J)[0]? = some (.row [.int .i64 n, SL zb tb (b.map Ent.row)] 25 0 0) := fun J => get_app_some h0
    have huc := gw_cell hg
    have keep : ∀ c, chgR b now x = c → ∃ u' s', appV 56 (5, 59) u (.lst 1 [crow c]) (s ++ [.row x.row 32 0 0, .row (crow c) 59 0 0]) = some (u', s') ∧ u'.cellB = true ∧
        W TT PT (.l [1, 2, 10, 47, 48, 49] lp29_1 :: .b 2 :: k) [(1, SL z' t' (now.map Ent.row)), (2, .ptr 0 0 0), (10, u'), (47, SL z5 t5 (al.map Ent.row)), (48, .int .i64 al.length), (49, .int .i64 ((i + 1 : Nat) : Int))] s' Q := by
      intro c hc
      obtain ⟨u', s', e1, g1, l1, -, f1⟩ := gw_app (bytes := 56) (y := .lst 1 [crow c]) (ys := [crow c]) (gw_push (l := [.row x.row 32 0 0, .row (crow c) 59 0 0]) hg) (by simp) rfl (by omega) (crows_len _) (by simpa using crows_len [c]) (by simp; omega)
      refine ⟨u', s', e1, gw_cell g1, ih (i + 1, u', s') (by simp; omega) ⟨by simp; omega, (f1 0 (by omega)).trans (g0 _), ?_⟩⟩
      simp only [htk, List.map_append, List.map_cons, List.map_nil, hc]
      simpa only [List.map_append, List.map_cons, List.map_nil] using g1
    simp only [ent_def] at hp1 hp2 hc1
    cases t1 : thereE x b
    · rw [t1] at hp1
      obtain ⟨u', s', e1, e2, e3⟩ := keep (1, x.own) (by unfold chgR; rw [t1]; rfl)
      simp only [crow, ent_def] at e1
      simp only [go_sem, Nat.reduceEqDiff, reduceIte, Nat.reduceAdd, Nat.reduceMul, Nat.reduceLeDiff, Int.reduceLT, Int.reduceLE, Int.reduceToNat, Int.reduceAdd, Int.reduceNeg, Int.reduceEq, lt_t hlt, List.getElem?_map, hx, g0]
      refine wx_fn hp1 (by simp only [go_sem]) ?_
      simp only [go_sem, Nat.reduceEqDiff, reduceIte, Nat.reduceAdd, Nat.reduceMul, Nat.reduceLeDiff, Int.reduceLT, Int.reduceLE, Int.reduceToNat, Int.reduceAdd, Int.reduceNeg, Int.reduceEq]
      refine wx_fn hp2 (by simp only [go_sem]) ?_
      simp only [go_sem, Nat.reduceEqDiff, reduceIte, Nat.reduceAdd, Nat.reduceMul, Nat.reduceLeDiff, Int.reduceLT, Int.reduceLE, Int.reduceToNat, Int.reduceAdd, Int.reduceNeg, Int.reduceEq]
      refine wx_fn hc1 (by simp only [go_sem]) ?_
      simp only [go_sem, Nat.reduceEqDiff, reduceIte, Nat.reduceAdd, Nat.reduceMul, Nat.reduceLeDiff, Int.reduceLT, Int.reduceLE, Int.reduceToNat, Int.reduceAdd, Int.reduceNeg, Int.reduceEq, e1, inc64 (show i < 9223372036854775807 by omega)]
      exact W_keep e3 rfl
    · rw [t1] at hp1
      obtain ⟨y, hy⟩ : ∃ y, b[placeE x b]? = some y := by
        unfold thereE at t1
        cases hy : b[placeE x b]? with
        | none => rw [hy] at t1; cases t1
        | some y => exact ⟨y, rfl⟩
      have hyv := hb y (List.mem_of_getElem? hy)
      have hc2 := copied_fn y (by have := entB_len hyv; omega)
      simp only [ent_def] at hc2
      cases t2 : thereE x now
      · rw [t2] at hp2
        obtain ⟨u', s', e1, e2, e3⟩ := keep (4, y.own) (by unfold chgR; rw [t1, if_pos rfl, hy]; simp only [t2]; rfl)
        simp only [crow, ent_def] at e1
        simp only [go_sem, Nat.reduceEqDiff, reduceIte, Nat.reduceAdd, Nat.reduceMul, Nat.reduceLeDiff, Int.reduceLT, Int.reduceLE, Int.reduceToNat, Int.reduceAdd, Int.reduceNeg, Int.reduceEq, lt_t hlt, List.getElem?_map, hx, g0]
        refine wx_fn hp1 (by simp only [go_sem]) ?_
        simp only [go_sem, Nat.reduceEqDiff, reduceIte, Nat.reduceAdd, Nat.reduceMul, Nat.reduceLeDiff, Int.reduceLT, Int.reduceLE, Int.reduceToNat, Int.reduceAdd, Int.reduceNeg, Int.reduceEq]
        refine wx_fn hp2 (by simp only [go_sem]) ?_
        simp only [go_sem, Nat.reduceEqDiff, reduceIte, Nat.reduceAdd, Nat.reduceMul, Nat.reduceLeDiff, Int.reduceLT, Int.reduceLE, Int.reduceToNat, Int.reduceAdd, Int.reduceNeg, Int.reduceEq]
        refine wx_fn hc1 (by simp only [go_sem]) ?_
        simp only [go_sem, Nat.reduceEqDiff, reduceIte, Nat.reduceAdd, Nat.reduceMul, Nat.reduceLeDiff, Int.reduceLT, Int.reduceLE, Int.reduceToNat, Int.reduceAdd, Int.reduceNeg, Int.reduceEq, g0, List.getElem?_map, hy]
        refine wx_fn hc2 (by simp only [go_sem]) ?_
        simp only [go_sem, Nat.reduceEqDiff, reduceIte, Nat.reduceAdd, Nat.reduceMul, Nat.reduceLeDiff, Int.reduceLT, Int.reduceLE, Int.reduceToNat, Int.reduceAdd, Int.reduceNeg, Int.reduceEq, e1, inc64 (show i < 9223372036854775807 by omega)]
        exact W_keep e3 rfl
      · rw [t2] at hp2
        cases hm0 : (y.own.missed == 0)
        · have hm' : ¬ y.missed = 0 := beq_eq_false_iff_ne.1 hm0
          obtain ⟨u', s', e1, e2, e3⟩ := keep (3, y.own) (by unfold chgR; rw [t1, if_pos rfl, hy]; simp only [t2, if_true, if_neg hm'])
          simp only [crow, ent_def] at e1
          simp only [go_sem, Nat.reduceEqDiff, reduceIte, Nat.reduceAdd, Nat.reduceMul, Nat.reduceLeDiff, Int.reduceLT, Int.reduceLE, Int.reduceToNat, Int.reduceAdd, Int.reduceNeg, Int.reduceEq, lt_t hlt, List.getElem?_map, hx, g0]
          refine wx_fn hp1 (by simp only [go_sem]) ?_
          simp only [go_sem, Nat.reduceEqDiff, reduceIte, Nat.reduceAdd, Nat.reduceMul, Nat.reduceLeDiff, Int.reduceLT, Int.reduceLE, Int.reduceToNat, Int.reduceAdd, Int.reduceNeg, Int.reduceEq]
          refine wx_fn hp2 (by simp only [go_sem]) ?_
          simp only [go_sem, Nat.reduceEqDiff, reduceIte, Nat.reduceAdd, Nat.reduceMul, Nat.reduceLeDiff, Int.reduceLT, Int.reduceLE, Int.reduceToNat, Int.reduceAdd, Int.reduceNeg, Int.reduceEq]
          refine wx_fn hc1 (by simp only [go_sem]) ?_
          simp only [go_sem, Nat.reduceEqDiff, reduceIte, Nat.reduceAdd, Nat.reduceMul, Nat.reduceLeDiff, Int.reduceLT, Int.reduceLE, Int.reduceToNat, Int.reduceAdd, Int.reduceNeg, Int.reduceEq, g0, List.getElem?_map, hy]
          refine wx_fn hc2 (by simp only [go_sem]) ?_
          simp only [go_sem, Nat.reduceEqDiff, reduceIte, Nat.reduceAdd, Nat.reduceMul, Nat.reduceLeDiff, Int.reduceLT, Int.reduceLE, Int.reduceToNat, Int.reduceAdd, Int.reduceNeg, Int.reduceEq, hm0, e1, inc64 (show i < 9223372036854775807 by omega)]
          exact W_keep e3 rfl
        · have hm' : y.missed = 0 := eq_of_beq hm0
          obtain ⟨u', s', e1, e2, e3⟩ := keep (2, y.own) (by unfold chgR; rw [t1, if_pos rfl, hy]; simp only [t2, if_true, if_pos hm'])
          simp only [crow, ent_def] at e1
          simp only [go_sem, Nat.reduceEqDiff, reduceIte, Nat.reduceAdd, Nat.reduceMul, Nat.reduceLeDiff, Int.reduceLT, Int.reduceLE, Int.reduceToNat, Int.reduceAdd, Int.reduceNeg, Int.reduceEq, lt_t hlt, List.getElem?_map, hx, g0]
          refine wx_fn hp1 (by simp only [go_sem]) ?_
          simp only [go_sem, Nat.reduceEqDiff, reduceIte, Nat.reduceAdd, Nat.reduceMul, Nat.reduceLeDiff, Int.reduceLT, Int.reduceLE, Int.reduceToNat, Int.reduceAdd, Int.reduceNeg, Int.reduceEq]
          refine wx_fn hp2 (by simp only [go_sem]) ?_
          simp only [go_sem, Nat.reduceEqDiff, reduceIte, Nat.reduceAdd, Nat.reduceMul, Nat.reduceLeDiff, Int.reduceLT, Int.reduceLE, Int.reduceToNat, Int.reduceAdd, Int.reduceNeg, Int.reduceEq]
          refine wx_fn hc1 (by simp only [go_sem]) ?_
          simp only [go_sem, Nat.reduceEqDiff, reduceIte, Nat.reduceAdd, Nat.reduceMul, Nat.reduceLeDiff, Int.reduceLT, Int.reduceLE, Int.reduceToNat, Int.reduceAdd, Int.reduceNeg, Int.reduceEq, g0, List.getElem?_map, hy]
          refine wx_fn hc2 (by simp only [go_sem]) ?_
          simp only [go_sem, Nat.reduceEqDiff, reduceIte, Nat.reduceAdd, Nat.reduceMul, Nat.reduceLeDiff, Int.reduceLT, Int.reduceLE, Int.reduceToNat, Int.reduceAdd, Int.reduceNeg, Int.reduceEq, hm0, e1, inc64 (show i < 9223372036854775807 by omega)]
          exact W_keep e3 rfl
  · obtain rfl : i = al.length := by omega
    rw [List.take_length] at hg
    simp only [go_sem, Nat.reduceEqDiff, reduceIte, Nat.reduceAdd, Nat.reduceMul, Nat.reduceLeDiff, Int.reduceLT, Int.reduceLE, Int.reduceToNat, Int.reduceAdd, Int.reduceNeg, Int.reduceEq, lt_f hge]
    exact h s u hg
theorem rchanges_fn (z z' : Bool) (t t' : Nat) (n : Int) (b now : List Ent) (ho : okE b) (ho' : okE now) : Fn TT PT 29 [.agg [.int .i64 n, SL z t (b.map Ent.row)], SL z' t' (now.map Ent.row)] (SL true 0 ((cmpL n b now).map crow)) := by
  have hv1 := rvalid_fn z t n b ho
  have hv2 := fit_fn z' t' now ho'
  refine Fn_go T29 rfl ?_
  unfold cmpL
  cases v1 : validB n b
  · rw [v1] at hv1
    simp only [go_sem, Nat.reduceEqDiff, reduceIte, Nat.reduceAdd, Nat.reduceMul, Nat.reduceLeDiff, Int.reduceLT, Int.reduceLE, Int.reduceToNat, Int.reduceAdd, Int.reduceNeg, Int.reduceEq]
    refine wx_fn hv1 (by simp only [go_sem]) ?_
    simp only [go_sem, Nat.reduceEqDiff, reduceIte, Nat.reduceAdd, Nat.reduceMul, Nat.reduceLeDiff, Int.reduceLT, Int.reduceLE, Int.reduceToNat, Int.reduceAdd, Int.reduceNeg, Int.reduceEq]
    exact fr_set rfl
  rw [v1] at hv1
  cases v2 : validB 1 now
  · rw [v2] at hv2
    simp only [go_sem, Nat.reduceEqDiff, reduceIte, Nat.reduceAdd, Nat.reduceMul, Nat.reduceLeDiff, Int.reduceLT, Int.reduceLE, Int.reduceToNat, Int.reduceAdd, Int.reduceNeg, Int.reduceEq]
    refine wx_fn hv1 (by simp only [go_sem]) ?_
    simp only [go_sem, Nat.reduceEqDiff, reduceIte, Nat.reduceAdd, Nat.reduceMul, Nat.reduceLeDiff, Int.reduceLT, Int.reduceLE, Int.reduceToNat, Int.reduceAdd, Int.reduceNeg, Int.reduceEq]
    refine wx_fn hv2 (by simp only [go_sem]) ?_
    simp only [go_sem, Nat.reduceEqDiff, reduceIte, Nat.reduceAdd, Nat.reduceMul, Nat.reduceLeDiff, Int.reduceLT, Int.reduceLE, Int.reduceToNat, Int.reduceAdd, Int.reduceNeg, Int.reduceEq]
    exact fr_set rfl
  rw [v2] at hv2
  rw [if_pos (show (true && true) = true from rfl)]
  obtain ⟨b1, b2, b3, b4, b5⟩ := valid_parts v1
  obtain ⟨c1, c2, c3, c4, c5⟩ := valid_parts v2
  obtain ⟨d1, d2⟩ := allI_inv b3 c3 now.length
  have he : allI b now now.length = allE b now := by
    unfold allI allE
    rw [List.take_length]
  simp only [go_sem, Nat.reduceEqDiff, reduceIte, Nat.reduceAdd, Nat.reduceMul, Nat.reduceLeDiff, Int.reduceLT, Int.reduceLE, Int.reduceToNat, Int.reduceAdd, Int.reduceNeg, Int.reduceEq]
  refine wx_fn hv1 (by simp only [go_sem]) ?_
  simp only [go_sem, Nat.reduceEqDiff, reduceIte, Nat.reduceAdd, Nat.reduceMul, Nat.reduceLeDiff, Int.reduceLT, Int.reduceLE, Int.reduceToNat, Int.reduceAdd, Int.reduceNeg, Int.reduceEq]
  refine wx_fn hv2 (by simp only [go_sem]) ?_
  simp only [go_sem, Nat.reduceEqDiff, reduceIte, Nat.reduceAdd, Nat.reduceMul, Nat.reduceLeDiff, Int.reduceLT, Int.reduceLE, Int.reduceToNat, Int.reduceAdd, Int.reduceNeg, Int.reduceEq, List.length_map]
  refine rchg_loop1 _ z z' t t' b now b3 c3 b1 c1 _ _ fun s z2 t2 => ?_
  simp only [go_sem, Nat.reduceEqDiff, reduceIte, Nat.reduceAdd, Nat.reduceMul, Nat.reduceLeDiff, Int.reduceLT, Int.reduceLE, Int.reduceToNat, Int.reduceAdd, Int.reduceNeg, Int.reduceEq, List.length_map]
  refine rchg_loop2 n z z' t t' z2 t2 b now (allI b now now.length) b3 c3 d2 b1 c1 (by omega) _ _ (fun s u hg => ?_) _ rfl
  rw [he, changes_eq b2 c2] at hg
  simp only [go_sem, Nat.reduceEqDiff, reduceIte, Nat.reduceAdd, Nat.reduceMul, Nat.reduceLeDiff, Int.reduceLT, Int.reduceLE, Int.reduceToNat, Int.reduceAdd, Int.reduceNeg, Int.reduceEq]
  exact fr_gw hg (by omega) (crows_len _) (crows_row _)
theorem sameC_fn (z z' : Bool) (t t' : Nat) (cs : List (Int × Ent)) (ho : ∀ c ∈ cs, okV c.2) (hl : cs.length ≤ 1000000) : Fn TT PT 27 [SL z t (cs.map crow), SL z' t' (cs.map crow)] (.bool true) := by
  refine Fn_go T27 rfl ?_
  simp only [go_sem, Nat.reduceEqDiff, reduceIte, Nat.reduceAdd, Nat.reduceMul, Nat.reduceLeDiff, Int.reduceLT, Int.reduceLE, Int.reduceToNat, Int.reduceAdd, Int.reduceNeg, Int.reduceEq, List.length_map, bne_self_eq_false]
  refine loop_w (α := Nat × St) (fun a => cs.length - a.1) (fun a => [(0, SL z t (cs.map crow)), (1, SL z' t' (cs.map crow)), (12, .int .i64 cs.length), (13, .int .i64 a.1)]) (fun a => a.2) (fun a => a.1 ≤ cs.length) ?_ (0, []) (by simp)
  rintro ⟨i, s⟩ hi ih
  simp only at hi ih
  refine w_rep (by delta lp27_0; exact rfl) ?_
  rcases Nat.lt_or_ge i cs.length with h | h
  · obtain ⟨c, hx, -, hm⟩ := at_some h
    have hs := sameE_fn false false 1 1 [c.2] (fun y hy => by rw [List.mem_singleton.1 hy]; exact okV_len (ho c hm)) (by simp)
    rw [show SL false 1 (List.map Ent.row [c.2]) = .lst 1 [c.2.row] from rfl] at hs
    simp only [ent_def] at hs
    simp only [go_sem, Nat.reduceEqDiff, reduceIte, Nat.reduceAdd, Nat.reduceMul, Nat.reduceLeDiff, Int.reduceLT, Int.reduceLE, Int.reduceToNat, Int.reduceAdd, Int.reduceNeg, Int.reduceEq, lt_t h]
    refine w_drw (by kernel_rfl) ?_
    simp only [go_sem, Nat.reduceEqDiff, reduceIte, Nat.reduceAdd, Nat.reduceMul, Nat.reduceLeDiff, Int.reduceLT, Int.reduceLE, Int.reduceToNat, Int.reduceAdd, Int.reduceNeg, Int.reduceEq, List.getElem?_map, hx, crow, bne_self_eq_false, if_true]
    refine wgx_fn hs (by simp only [go_sem]) ?_
    simp only [go_sem, Nat.reduceEqDiff, reduceIte, Nat.reduceAdd, Nat.reduceMul, Nat.reduceLeDiff, Int.reduceLT, Int.reduceLE, Int.reduceToNat, Int.reduceAdd, Int.reduceNeg, Int.reduceEq, inc64 (show i < 9223372036854775807 by omega)]
    exact W_keep (ih (i + 1, s) (by simp; omega) (by simp; omega)) rfl
  · simp only [go_sem, Nat.reduceEqDiff, reduceIte, Nat.reduceAdd, Nat.reduceMul, Nat.reduceLeDiff, Int.reduceLT, Int.reduceLE, Int.reduceToNat, Int.reduceAdd, Int.reduceNeg, Int.reduceEq, lt_f h]
    exact fr_set rfl
end Go.Proofs.YticpkkjnajmpoaaGreatDoor.KM
