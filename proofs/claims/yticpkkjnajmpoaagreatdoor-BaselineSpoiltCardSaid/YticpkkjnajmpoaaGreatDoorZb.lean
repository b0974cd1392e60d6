/- Walks: Insert, scene.Entries and scene.Baseline, the sites of their entries being lists of their own. -/
import Derived.Test.YticpkkjnajmpoaaGreatDoorZa
set_option linter.all false
namespace Go.Proofs.YticpkkjnajmpoaaGreatDoor.KM
open Go
theorem put_any {σ : St} {lo : Nat} {u w : V} {L : List (V × Ent)} {x : Ent} {i : Nat} (hc : Cl σ) (hg : NG σ lo u L) (hlo : lo ≤ σ.length) (hi : i ≤ L.length) (hb : L.length ≤ 100000) (hw : GW σ 3 41 lo w (x.sites.map krow)) (hx : x.sites ≠ []) (hxb : x.sites.length ≤ 1000000) :
    ∃ u' σ' w', ThP TT PT 61 [u, .int .i64 (i : Int), .agg [.int .i64 x.kind, w, .int .i64 x.seen, .int .i64 x.missed]] σ u' σ' ∧ Cl σ' ∧ σ.length ≤ σ'.length ∧ (∀ j, j < σ.length → σ'[j]? = σ[j]?) ∧ NG σ' lo u' (L.take i ++ (w', x) :: L.drop i) := by
  have hwc := gw_cell hw
  have hL : (L.map nrow).length = L.length := List.length_map ..
  obtain ⟨a, ha, ra⟩ := gw_cut_hi hg.1 (nrows_len L) (i := i) (by omega)
  obtain ⟨b, hb', rb⟩ := gw_cut_lo hg.1 (nrows_len L) (i := i) (by omega)
  rw [← List.map_take] at ra
  rw [← List.map_drop] at rb
  have hr : ∀ {L' : List (V × Ent)}, (∀ p ∈ L', p ∈ L) → ∀ i ∈ refsL (L'.map nrow).flatten, i < σ.length := fun hL' => ng_refs fun p hp => hg.2 p (hL' p hp)
  have c1 : Cl (σ ++ [.row [.int .i64 x.kind, w, .int .i64 x.seen, .int .i64 x.missed] 32 0 0]) := cl_push hc fun j hj => by
    simp only [Ob.refs, refsL, V.refs, List.nil_append, List.append_nil] at hj
    exact Nat.lt_succ_of_lt (gw_refs hw j hj)
  have ra1 := ra (σ ++ [.row [.int .i64 x.kind, w, .int .i64 x.seen, .int .i64 x.missed] 32 0 0]) fun j hj => List.getElem?_append_left hj
  obtain ⟨u1, s1, e1, g1, l1, -, f1⟩ := gw_app (lo := σ.length + 1) (σ := σ ++ [.row [.int .i64 x.kind, w, .int .i64 x.seen, .int .i64 x.missed] 32 0 0]) (m := 4) (e := 32) (bytes := 48) (y := a) gw_nil (by simp) ra1 (by omega) (by simp) (nrows_len _) (by simp; omega)
  rw [List.nil_append] at g1
  simp only [List.length_append, List.length_cons, List.length_nil] at l1
  have c2 : Cl s1 := gw_app_cln (gw_nil (lo := σ.length + 1)) ra1 e1 (by simp [refsL]) (fun j hj => by have := hr (fun p hp => List.mem_of_mem_take hp) j hj; simp; omega) c1
  have k1 : ∀ j, j < σ.length → s1[j]? = σ[j]? := fun j hj => (f1 j (by omega)).trans (List.getElem?_append_left hj)
  have q1 : s1[σ.length]? = some (.row [.int .i64 x.kind, w, .int .i64 x.seen, .int .i64 x.missed] 32 0 0) := (f1 _ (by omega)).trans (get_app0 ..)
  have hw1 : GW s1 3 41 lo w (x.sites.map krow) := gw_keep hw k1
  obtain ⟨w', J, hcp, c3, g2⟩ := rcopied_any (w := w) (x := x) c2 (fun J => by
    rcases gw_push (l := J) hw1 with ⟨rfl, h0⟩ | ⟨hn, ib, g, rfl, ho, -⟩
    · rw [h0]; rfl
    · simp only [srcRows, ho]
      have hf := flatL_len (krows_len x.sites)
      rw [if_pos ⟨trivial, trivial, by omega⟩, List.drop_zero, chopL_flat (krows_len _)]) hwc (gw_refs hw1) hx hxb
  have hw'c := gw_cell g2
  have g1J := gw_push (l := J ++ [Ob.row (nrow (w', x)) 32 0 0]) g1
  have c4 : Cl (s1 ++ J ++ [Ob.row (nrow (w', x)) 32 0 0]) := cl_push c3 fun j hj => by
    simp only [Ob.refs, nrow, refsL, V.refs, List.nil_append, List.append_nil] at hj
    exact Nat.lt_succ_of_lt (gw_refs g2 j hj)
  rw [← List.append_assoc] at g1J
  have ho4 : (s1 ++ J ++ [Ob.row (nrow (w', x)) 32 0 0])[(s1 ++ J).length]? = some (.row (nrow (w', x)) 32 0 0) := get_app0 ..
  have ry : srcRows (s1 ++ J ++ [Ob.row (nrow (w', x)) 32 0 0]) 4 (.sl (s1 ++ J).length 0 0 1 4 true) = some [nrow (w', x)] := by
    simp only [srcRows, ho4]
    rfl
  obtain ⟨u2, s2, e2, g3, l2, f20, f2⟩ := gw_app (bytes := 48) g1J (by simp; omega) ry (by omega) (nrows_len _) (nrows_len [(w', x)]) (by simp; omega)
  have rw1 : ∀ j ∈ refsL ((L.take i).map nrow).flatten, j < (s1 ++ J ++ [Ob.row (nrow (w', x)) 32 0 0]).length := fun j hj => by
    have := hr (L' := L.take i) (fun p hp => List.mem_of_mem_take hp) j hj
    simp
    omega
  have rw2 : ∀ j ∈ refsL [nrow (w', x)].flatten, j < (s1 ++ J ++ [Ob.row (nrow (w', x)) 32 0 0]).length := fun j hj => by
    simp only [List.flatten_cons, List.flatten_nil, List.append_nil, nrow, refsL, V.refs, List.nil_append] at hj
    have := gw_refs g2 j hj
    simp at this ⊢
    omega
  have c5 : Cl s2 := gw_app_cln g1J ry e2 rw1 rw2 c4
  simp only [List.length_append, List.length_cons, List.length_nil] at l2
  have k2 : ∀ j, j < σ.length → s2[j]? = σ[j]? := fun j hj => by
    rw [f2 j (by omega), List.getElem?_append_left (by simp; omega), List.getElem?_append_left (by omega)]
    exact k1 j hj
  have g2' : GW s2 3 41 s1.length w' (x.sites.map krow) := gw_other (by omega) (gw_shape g1J) (gw_push g2) f20
  have rb2 := rb s2 k2
  have hlen3 : ∀ r ∈ (L.take i).map nrow ++ [nrow (w', x)], r.length = 4 := fun r hr => by
    rcases List.mem_append.1 hr with h | h
    · exact nrows_len _ r h
    · rw [List.mem_singleton.1 h]; rfl
  obtain ⟨u3, s3, e3, g4, l3, f30, f3⟩ := gw_app (bytes := 48) g3 (by omega) rb2 (by omega) hlen3 (nrows_len _) (by simp; omega)
  have c6 : Cl s3 := gw_app_cln g3 rb2 e3 (fun j hj => by
    rw [List.flatten_append, refs_app] at hj
    rcases List.mem_append.1 hj with h | h
    · have := rw1 j h; simp at this; omega
    · have := rw2 j h; simp at this; omega) (fun j hj => by have := hr (L' := L.drop i) (fun p hp => List.mem_of_mem_drop hp) j hj; omega) c5
  have k3 : ∀ j, j < σ.length → s3[j]? = σ[j]? := fun j hj => (f3 j (by omega)).trans (k2 j hj)
  have g2'' : GW s3 3 41 s1.length w' (x.sites.map krow) := gw_other (by omega) (gw_shape g3) g2' f30
  refine ⟨u3, s3, w', ThP_all T61 rfl ?_ (gw_refs g4) (gw_okres g4) (by omega) c6, c6, by omega, k3, ?_, ?_⟩
  · simp only [nrow, List.append_assoc, List.length_append] at e2
    simp only [go_sem, Nat.reduceEqDiff, reduceIte, Nat.reduceAdd, Nat.reduceMul, Nat.reduceLeDiff, Int.reduceLT, Int.reduceLE, Int.reduceToNat, Int.reduceAdd, Int.reduceNeg, Int.reduceEq, cells1 hwc, hwc, ha, e1, q1]
    refine wx_any hcp ?_
    simp only [go_sem, Nat.reduceEqDiff, reduceIte, Nat.reduceAdd, Nat.reduceMul, Nat.reduceLeDiff, Int.reduceLT, Int.reduceLE, Int.reduceToNat, Int.reduceAdd, Int.reduceNeg, Int.reduceEq, cells1 hw'c, hw'c, e2, hb', e3]
    exact ⟨rfl, rfl⟩
  · have : (L.take i ++ (w', x) :: L.drop i).map nrow = (L.take i).map nrow ++ [nrow (w', x)] ++ (L.drop i).map nrow := by simp
    rw [this]
    exact gw_lo g4 (by omega)
  · intro p hp
    rcases List.mem_append.1 hp with h | h
    · exact ⟨(hg.2 p (List.mem_of_mem_take h)).1, gw_keep (hg.2 p (List.mem_of_mem_take h)).2 k3⟩
    · rcases List.mem_cons.1 h with rfl | h
      · exact ⟨hx, gw_lo g2'' (by omega)⟩
      · exact ⟨(hg.2 p (List.mem_of_mem_drop h)).1, gw_keep (hg.2 p (List.mem_of_mem_drop h)).2 k3⟩
theorem owns_eq {L : List (V × Ent)} {l : List Ent} (h : L.map (·.2) = l) (ho : ∀ x ∈ l, x.own = x) : ownL L = l.map Ent.row := by
  subst h
  unfold ownL
  rw [List.map_map]
  refine List.map_congr_left fun p hp => ?_
  show p.2.own.row = p.2.row
  rw [ho p.2 (List.mem_map_of_mem hp)]
theorem insert_any {σ : St} {lo : Nat} {u w : V} {L : List (V × Ent)} {l : List Ent} {x : Ent} (hc : Cl σ) (hg : NG σ lo u L) (hlo : lo ≤ σ.length) (hL : L.map (·.2) = l) (hown : ∀ y ∈ l, y.own = y) (hxo : x.own = x) (hb : l.length ≤ 100000) (ho : okE l)
    (hw : GW σ 3 41 lo w (x.sites.map krow)) (hx : x.sites ≠ []) (hxb : x.sites.length ≤ 1000000) :
    ∃ u' σ' L', ThP TT PT 33 [u, .agg [.int .i64 x.kind, w, .int .i64 x.seen, .int .i64 x.missed]] σ u' σ' ∧ Cl σ' ∧ σ.length ≤ σ'.length ∧ (∀ j, j < σ.length → σ'[j]? = σ[j]?) ∧ NG σ' lo u' L' ∧ L'.map (·.2) = insE x l := by
  have hwc := gw_cell hw
  have huc := gw_cell hg.1
  have hLl : L.length = l.length := by rw [← hL, List.length_map]
  have hp := place_fn true 0 l x (by omega) ho (by omega)
  have c1 : Cl (σ ++ [.row [.int .i64 x.kind, w, .int .i64 x.seen, .int .i64 x.missed] 32 0 0]) := cl_push hc fun j hj => by
    simp only [Ob.refs, refsL, V.refs, List.nil_append, List.append_nil] at hj
    exact Nat.lt_succ_of_lt (gw_refs hw j hj)
  have k1 : ∀ j, j < σ.length → (σ ++ [.row [.int .i64 x.kind, w, .int .i64 x.seen, .int .i64 x.missed] 32 0 0] : St)[j]? = σ[j]? := fun j hj => List.getElem?_append_left hj
  have hg1 : NG (σ ++ [.row [.int .i64 x.kind, w, .int .i64 x.seen, .int .i64 x.missed] 32 0 0]) lo u L := ng_keep hg fun j _ hj => k1 j hj
  have hw1 : GW (σ ++ [.row [.int .i64 x.kind, w, .int .i64 x.seen, .int .i64 x.missed] 32 0 0]) 3 41 lo w (x.sites.map krow) := gw_push hw
  have o1 := ow_on (ng_on hg1) huc
  rw [owns_eq hL hown] at o1
  have oe : OW (σ ++ [.row [.int .i64 x.kind, w, .int .i64 x.seen, .int .i64 x.missed] 32 0 0]) (.agg [.int .i64 x.kind, w, .int .i64 x.seen, .int .i64 x.missed]) (.agg x.row) := by
    have := ow_agg (σ := σ ++ [.row [.int .i64 x.kind, w, .int .i64 x.seen, .int .i64 x.missed] 32 0 0]) (.cons (on_oc (oc_row (v := .int .i64 x.kind) rfl)) (.cons (on_oc (gw_oc hw1 (by omega) (krows_len _) (krows_row _))) (.cons (on_oc (oc_row (v := .int .i64 x.seen) rfl)) (.cons (on_oc (oc_row (v := .int .i64 x.missed) rfl)) .nil))))
    have e : x.row = x.own.row := by rw [hxo]
    rw [e]
    exact this
  have ho0 : (σ ++ [.row [.int .i64 x.kind, w, .int .i64 x.seen, .int .i64 x.missed] 32 0 0])[σ.length]? = some (.row [.int .i64 x.kind, w, .int .i64 x.seen, .int .i64 x.missed] 32 0 0) := get_app0 ..
  unfold insE
  cases ht : thereE x l
  · rw [ht] at hp
    rw [if_neg (by simp)]
    obtain ⟨u', s2, w', hpt, c2, l2, k2, g2⟩ := put_any (i := placeE x l) c1 hg1 (by simp; omega) (by rw [hLl]; exact placeE_le x l) (by omega) hw1 hx hxb
    simp only [List.length_append, List.length_cons, List.length_nil] at l2 k2
    refine ⟨u', s2, _, ThP_all T33 rfl ?_ (gw_refs g2.1) (gw_okres g2.1) (by omega) c2, c2, by omega, fun j hj => (k2 j (by omega)).trans (k1 j hj), g2, ?_⟩
    · simp only [go_sem, Nat.reduceEqDiff, reduceIte, Nat.reduceAdd, Nat.reduceMul, Nat.reduceLeDiff, Int.reduceLT, Int.reduceLE, Int.reduceToNat, Int.reduceAdd, Int.reduceNeg, Int.reduceEq, cells1 hwc, hwc]
      refine wx_ow (.cons o1 (.cons oe .nil)) hp rfl ?_
      simp only [go_sem, Nat.reduceEqDiff, reduceIte, Nat.reduceAdd, Nat.reduceMul, Nat.reduceLeDiff, Int.reduceLT, Int.reduceLE, Int.reduceToNat, Int.reduceAdd, Int.reduceNeg, Int.reduceEq]
      refine wx_any hpt ?_
      simp only [go_sem, Nat.reduceEqDiff, reduceIte, Nat.reduceAdd, Nat.reduceMul, Nat.reduceLeDiff, Int.reduceLT, Int.reduceLE, Int.reduceToNat, Int.reduceAdd, Int.reduceNeg, Int.reduceEq]
      exact ⟨rfl, rfl⟩
    · rw [List.map_append, List.map_cons, List.map_take, List.map_drop, hL]
  · rw [ht] at hp
    rw [if_pos rfl]
    refine ⟨u, _, L, ThP_all T33 rfl ?_ (gw_refs hg1.1) (gw_okres hg1.1) (by simp) c1, c1, by simp, k1, hg1, hL⟩
    simp only [go_sem, Nat.reduceEqDiff, reduceIte, Nat.reduceAdd, Nat.reduceMul, Nat.reduceLeDiff, Int.reduceLT, Int.reduceLE, Int.reduceToNat, Int.reduceAdd, Int.reduceNeg, Int.reduceEq, cells1 hwc, hwc]
    refine wx_ow (.cons o1 (.cons oe .nil)) hp rfl ?_
    simp only [go_sem, Nat.reduceEqDiff, reduceIte, Nat.reduceAdd, Nat.reduceMul, Nat.reduceLeDiff, Int.reduceLT, Int.reduceLE, Int.reduceToNat, Int.reduceAdd, Int.reduceNeg, Int.reduceEq]
    exact ⟨rfl, rfl⟩
end Go.Proofs.YticpkkjnajmpoaaGreatDoor.KM
