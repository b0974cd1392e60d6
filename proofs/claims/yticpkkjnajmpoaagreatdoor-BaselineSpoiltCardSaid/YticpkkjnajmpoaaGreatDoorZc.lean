/- Walks: scene.Entries and scene.Baseline, the sites of their entries being lists of their own. -/
import Derived.Test.YticpkkjnajmpoaaGreatDoorZb
import Derived.Test.YticpkkjnajmpoaaGreatDoorPf
set_option linter.all false
namespace Go.Proofs.YticpkkjnajmpoaaGreatDoor.KM
open Go
def EntsN (l : List Ent) (u : V) (s : St) : Prop := ∃ L, NG s 1 u L ∧ L.map (·.2) = l ∧ Cl s
theorem entriesN_own (z : Bool) (t : Nat) (l : List Item) (hl : l.length ≤ 9223372036854775807) (hok : ∀ x ∈ l, x.ok) : ∃ u σ0, FnO TT PT 21 [SL z t (l.map Item.row)] u σ0 ∧ EntsN (preE l 20) u σ0 := by
  refine fno_ex (P := EntsN (preE l 20)) T21 rfl ?_ (fun v s ⟨L, h, _, hc⟩ => ⟨hc, gw_okres h.1, gw_refs h.1⟩)
  simp only [go_sem, Nat.reduceEqDiff, reduceIte, Nat.reduceAdd, Nat.reduceMul, Nat.reduceLeDiff, Int.reduceLT, Int.reduceLE, Int.reduceToNat, Int.reduceAdd, Int.reduceNeg, Int.reduceEq, List.length_map]
  refine loop_w (α := Nat × V × List (V × Ent) × St) (fun a => l.length - a.1) (fun a => [(3, .ptr 0 0 0), (11, SL z t (l.map Item.row)), (12, .int .i64 l.length), (13, .int .i64 a.1)]) (fun a => a.2.2.2)
    (fun a => a.1 ≤ l.length ∧ a.1 ≤ 20 ∧ a.2.2.2[0]? = some (.row [.int .i64 0, a.2.1] 25 0 0) ∧ NG a.2.2.2 1 a.2.1 a.2.2.1 ∧ a.2.2.1.map (·.2) = preE l a.1 ∧ Cl a.2.2.2) ?_ (0, .nils, [], [.row [.int .i64 0, .nils] 25 0 0]) ⟨by simp, by simp, rfl, ng_nil, rfl, fun o ho i hi => by rw [List.mem_singleton.1 ho] at hi; simp [Ob.refs, refsL, V.refs] at hi⟩
  rintro ⟨i, U, L, s⟩ ⟨hi, hi2, h0, hG, hL, hC⟩ ih
  simp only at hi hi2 h0 hG hL hC ih
  have hs : 1 ≤ s.length := (List.getElem?_eq_some_iff.1 h0).1
  obtain ⟨hp1, hp2, hp3⟩ := preE_inv l i
  refine w_rep (by delta lp21_1; exact rfl) ?_
  rcases Nat.lt_or_ge i l.length with h | h
  · obtain ⟨x, hx, -, hm⟩ := at_some h
    have hxo := hok x hm
    have hk : x.kind < 256 ∧ x.seen < 256 ∧ x.missed < 256 := ⟨hxo.1, hxo.2.1, hxo.2.2.1⟩
    have hC2 : Cl (s ++ [.row x.row 86 0 0]) := cl_push hC (by simp [Item.row, Ob.refs, refsL, V.refs])
    have hA0 : ∀ J, (s ++ J)[0]? = some (.row [.int .i64 0, U] 25 0 0) := fun J => get_app_some h0
    simp only [go_sem, Nat.reduceEqDiff, reduceIte, Nat.reduceAdd, Nat.reduceMul, Nat.reduceLeDiff, Int.reduceLT, Int.reduceLE, Int.reduceToNat, Int.reduceAdd, Int.reduceNeg, Int.reduceEq, lt_t h, List.getElem?_map, hx]
    refine wc_if (fun h2 => ?_) (fun h2 => ?_)
    · simp only [go_sem, Nat.reduceEqDiff, reduceIte, Nat.reduceAdd, Nat.reduceMul, Nat.reduceLeDiff, Int.reduceLT, Int.reduceLE, Int.reduceToNat, Int.reduceAdd, Int.reduceNeg, Int.reduceEq, hA0]
      have : preE l 20 = preE l i := by
        have : i = 20 := by simp at h2; omega
        rw [this]
      rw [this]
      exact ⟨_, rfl, L, ng_keep hG fun j _ hj => List.getElem?_append_left hj, hL, hC2⟩
    · have hi20 : i < 20 := by simp at h2; omega
      have w1 : IntKind.i64.wrap (x.kind : Int) = x.kind := wrap64 (by omega)
      have w2 : IntKind.i64.wrap (x.seen : Int) = x.seen := wrap64 (by omega)
      have w3 : IntKind.i64.wrap (x.missed : Int) = x.missed := wrap64 (by omega)
      have r1 : (x.kind : Int).tmod 4 = ((x.kind % 4 : Nat) : Int) := tmodN x.kind 4
      have r2 : (x.seen : Int).tmod 9 = ((x.seen % 9 : Nat) : Int) := tmodN x.seen 9
      have r3 : (x.missed : Int).tmod 8 = ((x.missed % 8 : Nat) : Int) := tmodN x.missed 8
      have r4 : (x.kind : Int).tdiv 4 = ((x.kind / 4 : Nat) : Int) := tdivN x.kind 4
      have r5 : ((x.kind / 4 : Nat) : Int).tmod 3 = ((x.kind / 4 % 3 : Nat) : Int) := tmodN (x.kind / 4) 3
      have a1 : IntKind.i64.wrap (1 + ((x.kind % 4 : Nat) : Int)) = 1 + ((x.kind % 4 : Nat) : Int) := wrap64 (by omega)
      have a2 : IntKind.i64.wrap (1 + ((x.seen % 9 : Nat) : Int)) = 1 + ((x.seen % 9 : Nat) : Int) := wrap64 (by omega)
      have a3 : IntKind.i64.wrap ((x.kind / 4 : Nat) : Int) = ((x.kind / 4 : Nat) : Int) := wrap64 (by omega)
      have a4 : IntKind.i64.wrap (2 + ((x.kind / 4 % 3 : Nat) : Int)) = 2 + ((x.kind / 4 % 3 : Nat) : Int) := wrap64 (by omega)
      have a5 : IntKind.i64.wrap (1 + ((x.kind % 4 : Nat) : Int) - 1) = ((x.kind % 4 : Nat) : Int) := by rw [wrap64 (by omega)]; omega
      have hn := nOf_le x.kind
      have hix : ([[.int .i64 2], [.int .i64 (2 + ((x.kind / 4 % 3 : Nat) : Int))], [.int .i64 2], [.int .i64 4]] : List (List V))[x.kind % 4]? = some [.int .i64 ((nOf x.kind : Nat) : Int)] := by
        have : x.kind % 4 = 0 ∨ x.kind % 4 = 1 ∨ x.kind % 4 = 2 ∨ x.kind % 4 = 3 := by omega
        unfold nOf
        rcases this with h | h | h | h <;> rw [h] <;> simp
      simp only [go_sem, Nat.reduceEqDiff, reduceIte, Nat.reduceAdd, Nat.reduceMul, Nat.reduceLeDiff, Int.reduceLT, Int.reduceLE, Int.reduceToNat, Int.reduceAdd, Int.reduceNeg, Int.reduceEq, w1, w2, w3, r1, r2, r3, r4, r5, a1, a2, a3, a4, a5, hix, hn.2]
      refine ents_inner2 x hxo (p := s.length) (n := nOf x.kind) (by omega) hn.2 _ _ _ (1 + ((x.kind % 4 : Nat) : Int)) (1 + ((x.seen % 9 : Nat) : Int)) ((x.missed % 8 : Nat) : Int) s _ _ ?_ (0, .nils, s ++ [.row x.row 86 0 0, .row [.int .i64 (1 + ((x.kind % 4 : Nat) : Int)), .nils, .int .i64 (1 + ((x.seen % 9 : Nat) : Int)), .int .i64 ((x.missed % 8 : Nat) : Int)] 32 0 0]) ⟨by simp, ?_, by simp, fun j hj => List.getElem?_append_left hj, get_app0 _ _, get_app _ _ 1, gw_nil⟩
      rotate_left
      · have c1 := cl_push (ob := .row x.row 86 0 0) hC (by simp [Item.row, Ob.refs, refsL, V.refs])
        have c2 := cl_push (ob := .row [.int .i64 (1 + ((x.kind % 4 : Nat) : Int)), .nils, .int .i64 (1 + ((x.seen % 9 : Nat) : Int)), .int .i64 ((x.missed % 8 : Nat) : Int)] 32 0 0) c1 (by simp [Ob.refs, refsL, V.refs])
        simpa using c2
      intro u s' hc' hl' hk' h2' hg'
      have h0' : s'[0]? = some (.row [.int .i64 0, U] 25 0 0) := (hk' 0 (by omega)).trans h0
      have hG' : NG s' 1 U L := ng_keep hG fun j _ hj => hk' j hj
      have hoE : okE (preE l i) := fun e he => by obtain ⟨y, -, rfl⟩ := hp3 e he; rw [ent_sites]; have := nOf_le y.kind; omega
      have hown : ∀ y ∈ preE l i, y.own = y := fun e he => by obtain ⟨y, -, rfl⟩ := hp3 e he; rfl
      have hxs : x.ent.sites ≠ [] := by
        intro e
        have := ent_sites x
        rw [e] at this
        simp at this
        omega
      have hmore := preE_more (l := l) (i := i) hx
      obtain ⟨u', s2, L2, hins, c2, l2, k2, g2, hL2⟩ := insert_any (w := u) (x := x.ent) hc' hG' (by omega) hL hown rfl (by omega) hoE (gw_lo hg' (by omega)) hxs (by rw [ent_sites]; omega)
      have q0 : s2[0]? = some (.row [.int .i64 0, U] 25 0 0) := (k2 0 (by omega)).trans h0'
      have huc := gw_cell g2.1
      simp only [go_sem, Nat.reduceEqDiff, reduceIte, Nat.reduceAdd, Nat.reduceMul, Nat.reduceLeDiff, Int.reduceLT, Int.reduceLE, Int.reduceToNat, Int.reduceAdd, Int.reduceNeg, Int.reduceEq, h0', h2']
      refine wx_any hins ?_
      simp only [go_sem, Nat.reduceEqDiff, reduceIte, Nat.reduceAdd, Nat.reduceMul, Nat.reduceLeDiff, Int.reduceLT, Int.reduceLE, Int.reduceToNat, Int.reduceAdd, Int.reduceNeg, Int.reduceEq, q0, cells1 huc, huc, inc64 (show i < 9223372036854775807 by omega)]
      refine W_keep (ih (i + 1, u', L2, _) (by simp; omega) ⟨by simp; omega, by simp; omega, ?_, ng_keep g2 fun j hj _ => by rw [List.getElem?_set_ne (by omega)], ?_, cl_set c2 ?_⟩) rfl
      · simp only
        rw [List.getElem?_set_self (by omega)]
      · rw [hL2, hmore]
      · intro j hj
        simp only [Ob.refs, refsL, V.refs, List.append_nil, List.nil_append] at hj
        exact gw_refs g2.1 j hj
  · simp only [go_sem, Nat.reduceEqDiff, reduceIte, Nat.reduceAdd, Nat.reduceMul, Nat.reduceLeDiff, Int.reduceLT, Int.reduceLE, Int.reduceToNat, Int.reduceAdd, Int.reduceNeg, Int.reduceEq, lt_f h, h0]
    have : preE l 20 = preE l i := by
      unfold preE
      rw [List.take_of_length_le h, List.take_of_length_le (by omega)]
    rw [this]
    exact ⟨_, rfl, L, hG, hL, hC⟩
def BaseN (n : Int) (l : List Ent) (v : V) (s : St) : Prop := ∃ u L, v = .agg [.int .i64 n, u] ∧ NG s 1 u L ∧ L.map (·.2) = l ∧ Cl s
theorem baseN_own (z : Bool) (t : Nat) (l : List Item) (n : Nat) (hn : n < 256) (hl : l.length ≤ 9223372036854775807) (hok : ∀ x ∈ l, x.ok) : ∃ v σ0, FnO TT PT 15 [SL z t (l.map Item.row), .int .u8 n] v σ0 ∧ BaseN n (preE l 20) v σ0 := by
  obtain ⟨u0, σ0, hen, L0, hg, hL, hcl⟩ := entriesN_own z t l hl hok
  have w1 : IntKind.i64.wrap (n : Int) = n := wrap64 (by omega)
  have hc1 : Cl [.row [.int .i64 0, .nils] 25 0 0] := fun o ho i hi => by rw [List.mem_singleton.1 ho] at hi; simp [Ob.refs, refsL, V.refs] at hi
  have hca := CallS.own (σ := [.row [.int .i64 0, .nils] 25 0 0]) (over_set (vs := [SL z t (l.map Item.row)]) (by simp only [go_sem])) hen
  rw [own_nil (setL_refs (by simp only [go_sem]))] at hca
  have hg2 : NG ([.row [.int .i64 0, .nils] 25 0 0] ++ σ0.map (Ob.ren (· + 1))) 1 (u0.ren (· + 1)) (L0.map fun p => (p.1.ren (· + 1), p.2)) := by
    refine ⟨?_, fun p hp => ?_⟩
    · rcases hg.1 with ⟨rfl, h1⟩ | ⟨hn0, i, g, rfl, ho, hlo⟩
      · refine .inl ⟨rfl, ?_⟩
        obtain rfl : L0 = [] := by simpa using h1
        rfl
      · refine .inr ⟨by simpa using hn0, i + 1, g, by simp [V.ren], ?_, by omega⟩
        rw [List.getElem?_append_right (by simp), List.length_singleton, Nat.add_sub_cancel, List.getElem?_map, ho]
        simp only [Option.map_some, Ob.ren]
        congr 2
        have : ∀ L : List (V × Ent), renL (· + 1) (L.map nrow).flatten = ((L.map fun p => (p.1.ren (· + 1), p.2)).map nrow).flatten := by
          intro L
          induction L with
          | nil => rfl
          | cons p L ih =>
            simp only [List.map_cons, List.flatten_cons, nrow, List.cons_append, List.nil_append, renL, V.ren]
            rw [ih]
        exact this L0
    · obtain ⟨p0, hp0, rfl⟩ := List.mem_map.1 hp
      exact ⟨(hg.2 p0 hp0).1, gw_own (σ := [.row [.int .i64 0, .nils] 25 0 0]) (σ' := [.row [.int .i64 0, .nils] 25 0 0]) (gw_lo (hg.2 p0 hp0).2 (Nat.zero_le _)) (krows_row _) rfl⟩
  have hL2 : (L0.map fun p => (p.1.ren (· + 1), p.2)).map (·.2) = preE l 20 := by rw [List.map_map]; exact hL
  have c2 := cl_join hc1 hcl
  simp only [List.length_singleton] at hca c2
  generalize u0.ren (· + 1) = u at hca hg2
  generalize σ0.map (Ob.ren (· + 1)) = J at hca hg2 c2
  generalize (L0.map fun p => (p.1.ren (· + 1), p.2)) = L at hg2 hL2
  have huc := gw_cell hg2.1
  refine fno_ex (P := BaseN n (preE l 20)) T15 rfl ?_ ?_
  rotate_left
  · rintro v s ⟨u, L, rfl, h1, h2, h3⟩
    refine ⟨h3, ?_, fun i hi => ?_⟩
    · have hw := gw_cell h1.1
      simp only [okRes, okRes1, List.all_cons, List.all_nil, Bool.and_true, hw]
      rfl
    · simp only [refsL, V.refs, List.nil_append, List.append_nil] at hi
      exact gw_refs h1.1 i hi
  · simp only [go_sem, Nat.reduceEqDiff, reduceIte, Nat.reduceAdd, Nat.reduceMul, Nat.reduceLeDiff, Int.reduceLT, Int.reduceLE, Int.reduceToNat, Int.reduceAdd, Int.reduceNeg, Int.reduceEq, w1]
    refine wx_call hca ?_
    simp only [go_sem, Nat.reduceEqDiff, reduceIte, Nat.reduceAdd, Nat.reduceMul, Nat.reduceLeDiff, Int.reduceLT, Int.reduceLE, Int.reduceToNat, Int.reduceAdd, Int.reduceNeg, Int.reduceEq, cells1 huc, huc]
    refine ⟨_, rfl, u, L, rfl, ?_, hL2, ?_⟩
    · exact ng_keep hg2 fun j hj _ => by
        match j, hj with
        | j + 1, _ => rfl
    · refine cl_set (j := 0) (ob := .row [.int .i64 n, u] 25 0 0) c2 fun i hi => ?_
      simp only [Ob.refs, refsL, V.refs, List.nil_append, List.append_nil] at hi
      exact gw_refs hg2.1 i hi
end Go.Proofs.YticpkkjnajmpoaaGreatDoor.KM
