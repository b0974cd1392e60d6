/- Walks: Update of baselines, the sites of its entries being lists of their own. -/
import Derived.Test.YticpkkjnajmpoaaGreatDoorYb
import Derived.Test.YticpkkjnajmpoaaGreatDoorPo
set_option linter.all false
namespace Go.Proofs.YticpkkjnajmpoaaGreatDoor.KM
open Go
theorem own_gw {s : St} {f m e : Nat} {args : List V} {rows : List (List V)} (hc : Cl s) (ha : args.all setC = true) (hr : ∀ r ∈ rows, r.all V.rowB = true) (hF : ∃ u σ0, FnO TT PT f args u σ0 ∧ (GW σ0 m e 0 u rows ∧ Cl σ0)) :
    ∃ w J, CallS TT PT f args s w (s ++ J) ∧ GW (s ++ J) m e s.length w rows ∧ Cl (s ++ J) := by
  obtain ⟨u, σ0, hf, hg, hcl⟩ := hF
  have h := CallS.own (σ := s) (over_set ha) hf
  rw [own_nil (setL_refs ha)] at h
  exact ⟨_, _, h, gw_own hg hr rfl, cl_join hc hcl⟩
theorem gw_keep2 {σ σ' : St} {m e lo : Nat} {u : V} {xs : List (List V)} (h : GW σ m e lo u xs) (hk : ∀ j, lo ≤ j → σ'[j]? = σ[j]?) : GW σ' m e lo u xs := by
  rcases h with h | ⟨hn, i, g, h, ho, hlo⟩
  · exact .inl h
  · exact .inr ⟨hn, i, g, h, (hk i hlo).trans ho, hlo⟩
theorem bcopied_own (e : Ent) (hn : e.sites ≠ []) (hb : e.sites.length ≤ 1000000) :
    ∃ v σ0, FnO TT PT 58 [.agg e.row] v σ0 ∧ ∃ w, v = .agg [.int .i64 e.kind, w, .int .i64 e.seen, .int .i64 e.missed] ∧ GW σ0 3 41 0 w (e.sites.map krow) ∧ Cl σ0 := by
  refine fno_ex (P := fun v s => ∃ w, v = .agg [.int .i64 e.kind, w, .int .i64 e.seen, .int .i64 e.missed] ∧ GW s 3 41 0 w (e.sites.map krow) ∧ Cl s) T58 rfl ?_ ?_
  · have hc0 : Cl [.row e.row 32 0 0, .row [.int .i64 0, .nils, .int .i64 0, .int .i64 0] 32 0 0] := cl_push (cl_row cl_nil (ent_row e)) (by simp [Ob.refs, refsL, V.refs])
    obtain ⟨w, J, hcall, hg, hcl⟩ := own_gw hc0 (args := [e.sl]) (by simp only [go_sem]) (krows_row _) (clone_own e.z e.t e.sites hn hb)
    have hw := gw_cell hg
    have hwr := gw_refs hg
    simp only [ent_def] at hcall hg hcl
    simp only [go_sem, Nat.reduceEqDiff, reduceIte, Nat.reduceAdd, Nat.reduceMul, Nat.reduceLeDiff, Int.reduceLT, Int.reduceLE, Int.reduceToNat, Int.reduceAdd, Int.reduceNeg, Int.reduceEq]
    refine wx_call hcall ?_
    simp only [go_sem, Nat.reduceEqDiff, reduceIte, Nat.reduceAdd, Nat.reduceMul, Nat.reduceLeDiff, Int.reduceLT, Int.reduceLE, Int.reduceToNat, Int.reduceAdd, Int.reduceNeg, Int.reduceEq, cells1 hw, hw]
    refine ⟨_, rfl, w, rfl, ?_, ?_⟩
    · exact gw_lo (gw_keep2 hg fun j hj => by
        match j, hj with
        | j + 2, _ => rfl) (Nat.zero_le _)
    · refine cl_set (cl_set (j := 0) (ob := .row [.int .i64 e.kind, w, .int .i64 e.seen, .int .i64 e.missed] 32 0 0) hcl ?_) (j := 1) (ob := .row [.int .i64 e.kind, w, .int .i64 e.seen, .int .i64 e.missed] 32 0 0) ?_
      · intro i hi
        simp only [Ob.refs, refsL, V.refs, List.nil_append, List.append_nil] at hi
        exact hwr i hi
      · intro i hi
        rw [List.length_set]
        simp only [Ob.refs, refsL, V.refs, List.nil_append, List.append_nil] at hi
        exact hwr i hi
  · rintro v s ⟨w, rfl, h1, h2⟩
    refine ⟨h2, ?_, fun i hi => ?_⟩
    · have hw := gw_cell h1
      simp only [okRes, okRes1, List.all_cons, List.all_nil, Bool.and_true, hw]
      rfl
    · simp only [refsL, V.refs, List.nil_append, List.append_nil] at hi
      exact gw_refs h1 i hi
theorem own_kind (x : Ent) : x.own.kind = x.kind := rfl
theorem own_seen (x : Ent) : x.own.seen = x.seen := rfl
structure Iupn (n0 ob : Nat) (n1 : Int) (base : St) (d : List (Option Ent × Option Ent)) (s : St) : Prop where
  cl : Cl s
  len : n0 ≤ s.length
  lst : ∃ u L, s[ob]? = some (.row [.int .i64 n1, u] 25 0 0) ∧ NG s (ob + 1) u L ∧ L.map (·.2) = d.filterMap upd
  old : ∀ j, j < ob → s[j]? = base[j]?
theorem iupn_none {n0 ob : Nat} {n1 : Int} {base : St} {d : List (Option Ent × Option Ent)} {s s' : St} (h : Iupn n0 ob n1 base d s) {p : Option Ent × Option Ent} (hp : upd p = none) (hc : Cl s') (hl : s.length ≤ s'.length) (hk : ∀ j, j < s.length → s'[j]? = s[j]?) (hob : ob < n0) : Iupn n0 ob n1 base (d ++ [p]) s' := by
  obtain ⟨h1, h2, ⟨u, L, h3, h4, h5⟩, h6⟩ := h
  refine ⟨hc, by omega, ⟨u, L, (hk ob (by omega)).trans h3, ng_keep h4 fun j _ hj => hk j hj, ?_⟩, fun j hj => (hk j (by omega)).trans (h6 j hj)⟩
  rw [List.filterMap_append, h5]
  simp [hp]
theorem iupn_some {n0 ob : Nat} {n1 : Int} {base : St} {d : List (Option Ent × Option Ent)} {s t : St} (h : Iupn n0 ob n1 base d s) (hob : ob < n0) (hd : d.length ≤ 1000) {p : Option Ent × Option Ent} {x : Ent} (hp : upd p = some x) (hx : x.sites ≠ []) {w : V}
    (hc : Cl t) (hl : s.length ≤ t.length) (hk : ∀ j, j < s.length → t[j]? = s[j]?) (hw : GW t 3 41 (ob + 1) w (x.sites.map krow)) :
    ∃ u u' s', t[ob]? = some (.row [.int .i64 n1, u] 25 0 0) ∧ appV 48 (4, 32) u (.sl t.length 0 0 1 4 true) (t ++ [.row (nrow (w, x)) 32 0 0]) = some (u', s') ∧ s'[ob]? = some (.row [.int .i64 n1, u] 25 0 0) ∧ u'.cellB = true ∧ t.length ≤ s'.length ∧ Iupn n0 ob n1 base (d ++ [p]) (s'.set ob (.row [.int .i64 n1, u'] 25 0 0)) := by
  obtain ⟨h1, h2, ⟨u, L, h3, h4, h5⟩, h6⟩ := h
  have hdl : (d.filterMap upd).length ≤ d.length := List.length_filterMap_le ..
  have hLl : L.length ≤ d.length := by rw [← h5, List.length_map] at hdl; exact hdl
  have hct : Cl (t ++ [.row (nrow (w, x)) 32 0 0]) := cl_push hc fun i hi => by
    simp only [Ob.refs, nrow, refsL, V.refs, List.nil_append, List.append_nil] at hi
    exact Nat.lt_succ_of_lt (gw_refs hw i hi)
  have h4t : NG (t ++ [.row (nrow (w, x)) 32 0 0]) (ob + 1) u L := ng_keep h4 fun j _ hj => by
    rw [List.getElem?_append_left (by omega)]
    exact hk j hj
  obtain ⟨u', s', e1, g1, l1, c1, f1⟩ := ng_app h4t (by simp; omega) (gw_push hw) hx (get_app0 ..) (by omega) hct
  simp only [List.length_append, List.length_cons, List.length_nil] at l1
  have hto : t[ob]? = some (.row [.int .i64 n1, u] 25 0 0) := (hk ob (by omega)).trans h3
  refine ⟨u, u', s', hto, e1, (f1 ob (by omega)).trans (get_app_some hto), gw_cell g1.1, by omega, cl_set c1 ?_, by simp; omega, ⟨u', L ++ [(w, x)], by rw [List.getElem?_set_self (by omega)], ng_keep g1 fun j hj _ => by rw [List.getElem?_set_ne (by omega)], ?_⟩, fun j hj => ?_⟩
  · intro i hi
    simp only [Ob.refs, refsL, V.refs, List.append_nil, List.nil_append] at hi
    exact gw_refs g1.1 i hi
  · rw [List.map_append, h5, List.filterMap_append]
    simp [hp]
  · rw [List.getElem?_set_ne (by omega), f1 j (by omega), List.getElem?_append_left (by omega), hk j (by omega)]
    exact h6 j hj
theorem vcop {s : St} (hc : Cl s) (x : Ent) (hn : x.sites ≠ []) (hb : x.sites.length ≤ 1000000) :
    ∃ w τ, CallS TT PT 58 [.agg x.row] (s ++ [.row [.int .i64 0, .nils, .int .i64 0, .int .i64 0] 32 0 0]) (.agg [.int .i64 x.kind, w, .int .i64 x.seen, .int .i64 x.missed]) τ ∧ τ[s.length]? = some (.row [.int .i64 0, .nils, .int .i64 0, .int .i64 0] 32 0 0) ∧ Cl τ ∧ s.length + 1 ≤ τ.length ∧ (∀ j, j < s.length → τ[j]? = s[j]?) ∧ GW τ 3 41 (s.length + 1) w (x.sites.map krow) ∧ w.cellB = true := by
  obtain ⟨v0, σ0, hf, w0, rfl, hg, hcl⟩ := bcopied_own x hn hb
  have hc1 : Cl (s ++ [.row [.int .i64 0, .nils, .int .i64 0, .int .i64 0] 32 0 0]) := cl_row hc (by simp only [go_sem])
  have ha : List.all [V.agg x.row] setC = true := by simp only [go_sem]
  have h := CallS.own (σ := s ++ [.row [.int .i64 0, .nils, .int .i64 0, .int .i64 0] 32 0 0]) (over_set ha) hf
  rw [own_nil (setL_refs ha)] at h
  have hg2 := gw_own (σ := s ++ [.row [.int .i64 0, .nils, .int .i64 0, .int .i64 0] 32 0 0]) hg (krows_row _) rfl
  have hc2 := cl_join hc1 hcl
  simp only [V.ren, renL] at h
  refine ⟨_, _, h, get_app_some (get_app0 ..), hc2, by simp, fun j hj => ?_, ?_, gw_cell hg2⟩
  · rw [List.getElem?_append_left (by simp; omega), List.getElem?_append_left (by omega)]
  · simpa only [List.length_append, List.length_cons, List.length_nil] using hg2
theorem vset {s τ : St} {w : V} {rows : List (List V)} (hc : Cl τ) (hl : s.length + 1 ≤ τ.length) (hk : ∀ j, j < s.length → τ[j]? = s[j]?) (hg : GW τ 3 41 (s.length + 1) w rows) (a b c : Int) :
    Cl (τ.set s.length (.row [.int .i64 a, w, .int .i64 b, .int .i64 c] 32 0 0)) ∧ s.length ≤ (τ.set s.length (.row [.int .i64 a, w, .int .i64 b, .int .i64 c] 32 0 0)).length ∧ (∀ j, j < s.length → (τ.set s.length (.row [.int .i64 a, w, .int .i64 b, .int .i64 c] 32 0 0))[j]? = s[j]?) ∧ GW (τ.set s.length (.row [.int .i64 a, w, .int .i64 b, .int .i64 c] 32 0 0)) 3 41 (s.length + 1) w rows := by
  refine ⟨cl_set hc fun i hi => ?_, by simp; omega, fun j hj => ?_, gw_set hg (by omega)⟩
  · simp only [Ob.refs, refsL, V.refs, List.nil_append, List.append_nil] at hi
    exact gw_refs hg i hi
  · rw [List.getElem?_set_ne (by omega)]
    exact hk j hj
theorem vupn_th {n0 ob : Nat} {n1 : Int} {base : St} (hob : ob < n0) (d : List (Option Ent × Option Ent)) (p : Option Ent × Option Ent) (s : St) (hd : d.length ≤ 1000) (h : Iupn n0 ob n1 base d s) (h1 : ∀ x, p.1 = some x → okV x) (h2 : ∀ x, p.2 = some x → okV x) (h3 : p.1 ≠ none ∨ p.2 ≠ none) :
    ∃ s', Th TT PT 63 [ptrE p.1, ptrE p.2, .ptr ob 0 0] s (.tup []) s' ∧ Iupn n0 ob n1 base (d ++ [p]) s' := by
  have hol : ob < s.length := by have := h.len; omega
  match p, h1, h2, h3 with
  | (none, none), _, _, h3 => simp at h3
  | (none, some y), _, h2, _ =>
    obtain ⟨w, τ, hc, k0, c0, l0, f0, g0, hw⟩ := vcop h.cl y (okV_ne (h2 y rfl)) (by have := entB_len (h2 y rfl); omega)
    have hself : ∀ X : Ob, (τ.set s.length X)[s.length]? = some X := fun X => List.getElem?_set_self (by omega)
    obtain ⟨c1, l1, f1, g1⟩ := vset c0 l0 f0 g0 y.kind 1 0
    obtain ⟨u, u', s', q0, q2, q3, q4, hlen, q5⟩ := iupn_some h hob hd (p := (none, some y)) (x := { y.own with seen := 1, missed := 0 }) rfl (okV_ne (x := y) (h2 y rfl)) c1 l1 f1 (gw_lo g1 (by omega))
    have q0' := get_app_some (l := [.row (nrow (w, { y.own with seen := 1, missed := 0 })) 32 0 0]) q0
    simp only [nrow, ent_def, List.length_set, own_kind] at hc q2 q0'
    refine ⟨_, Th_all T63 rfl ?_ rfl rfl (by simp at hlen ⊢; omega) q5.cl, q5⟩
    unfold ptrE
    simp only [go_sem, Nat.reduceEqDiff, reduceIte, Nat.reduceAdd, Nat.reduceMul, Nat.reduceLeDiff, Int.reduceLT, Int.reduceLE, Int.reduceToNat, Int.reduceAdd, Int.reduceNeg, Int.reduceEq]
    refine wx_call hc ?_
    simp only [go_sem, Nat.reduceEqDiff, reduceIte, Nat.reduceAdd, Nat.reduceMul, Nat.reduceLeDiff, Int.reduceLT, Int.reduceLE, Int.reduceToNat, Int.reduceAdd, Int.reduceNeg, Int.reduceEq, k0, hself, List.set_set, cells1 hw, hw, List.length_set, q0, q0', q2, q3, cells1 q4, q4]
    exact ⟨rfl, rfl⟩
  | (some x, none), h1, _, _ =>
    have hnum := okV_num (h1 x rfl)
    have hwr : IntKind.i64.wrap (x.missed + 1) = x.missed + 1 := wrap64 (by omega)
    obtain ⟨w, τ, hc, k0, c0, l0, f0, g0, hw⟩ := vcop h.cl x (okV_ne (h1 x rfl)) (by have := entB_len (h1 x rfl); omega)
    have hself : ∀ X : Ob, (τ.set s.length X)[s.length]? = some X := fun X => List.getElem?_set_self (by omega)
    obtain ⟨c1, l1, f1, g1⟩ := vset c0 l0 f0 g0 x.kind x.seen (x.missed + 1)
    simp only [ent_def] at hc
    cases hm : decide (x.missed + 1 ≤ 7)
    · have hm' : ¬ x.missed + 1 ≤ 7 := of_decide_eq_false hm
      have q5 := iupn_none h (p := (some x, none)) (by rw [upd_l, if_neg (by omega)]) c1 l1 f1 hob
      refine ⟨_, Th_all T63 rfl ?_ rfl rfl l1 q5.cl, q5⟩
      unfold ptrE
      simp only [go_sem, Nat.reduceEqDiff, reduceIte, Nat.reduceAdd, Nat.reduceMul, Nat.reduceLeDiff, Int.reduceLT, Int.reduceLE, Int.reduceToNat, Int.reduceAdd, Int.reduceNeg, Int.reduceEq]
      refine wx_call hc ?_
      simp only [go_sem, Nat.reduceEqDiff, reduceIte, Nat.reduceAdd, Nat.reduceMul, Nat.reduceLeDiff, Int.reduceLT, Int.reduceLE, Int.reduceToNat, Int.reduceAdd, Int.reduceNeg, Int.reduceEq, k0, hself, List.set_set, cells1 hw, hw, List.length_set, hwr, hm]
      exact ⟨rfl, rfl⟩
    · have hm' : x.missed + 1 ≤ 7 := of_decide_eq_true hm
      obtain ⟨u, u', s', q0, q2, q3, q4, hlen, q5⟩ := iupn_some h hob hd (p := (some x, none)) (x := { x.own with missed := x.missed + 1 }) (by rw [upd_l, if_pos (by omega)]) (okV_ne (x := x) (h1 x rfl)) c1 l1 f1 (gw_lo g1 (by omega))
      have q0' := get_app_some (l := [.row (nrow (w, { x.own with missed := x.missed + 1 })) 32 0 0]) q0
      simp only [nrow, List.length_set, own_kind, own_seen] at q2 q0'
      refine ⟨_, Th_all T63 rfl ?_ rfl rfl (by simp at hlen ⊢; omega) q5.cl, q5⟩
      unfold ptrE
      simp only [go_sem, Nat.reduceEqDiff, reduceIte, Nat.reduceAdd, Nat.reduceMul, Nat.reduceLeDiff, Int.reduceLT, Int.reduceLE, Int.reduceToNat, Int.reduceAdd, Int.reduceNeg, Int.reduceEq]
      refine wx_call hc ?_
      simp only [go_sem, Nat.reduceEqDiff, reduceIte, Nat.reduceAdd, Nat.reduceMul, Nat.reduceLeDiff, Int.reduceLT, Int.reduceLE, Int.reduceToNat, Int.reduceAdd, Int.reduceNeg, Int.reduceEq, k0, hself, List.set_set, cells1 hw, hw, List.length_set, hwr, hm, q0, q0', q2, q3, cells1 q4, q4]
      exact ⟨rfl, rfl⟩
  | (some x, some y), h1, _, _ =>
    have hnum := okV_num (h1 x rfl)
    have hwr : IntKind.i64.wrap (x.seen + 1) = x.seen + 1 := wrap64 (by omega)
    obtain ⟨w, τ, hc, k0, c0, l0, f0, g0, hw⟩ := vcop h.cl x (okV_ne (h1 x rfl)) (by have := entB_len (h1 x rfl); omega)
    have hself : ∀ X : Ob, (τ.set s.length X)[s.length]? = some X := fun X => List.getElem?_set_self (by omega)
    obtain ⟨c1, l1, f1, g1⟩ := vset c0 l0 f0 g0 x.kind (min (x.seen + 1) 1073741824) 0
    obtain ⟨u, u', s', q0, q2, q3, q4, hlen, q5⟩ := iupn_some h hob hd (p := (some x, some y)) (x := { x.own with seen := min (x.seen + 1) 1073741824, missed := 0 }) rfl (okV_ne (x := x) (h1 x rfl)) c1 l1 f1 (gw_lo g1 (by omega))
    have q0' := get_app_some (l := [.row (nrow (w, { x.own with seen := min (x.seen + 1) 1073741824, missed := 0 })) 32 0 0]) q0
    simp only [nrow, ent_def, List.length_set, own_kind] at hc q2 q0'
    refine ⟨_, Th_all T63 rfl ?_ rfl rfl (by simp at hlen ⊢; omega) q5.cl, q5⟩
    unfold ptrE
    simp only [go_sem, Nat.reduceEqDiff, reduceIte, Nat.reduceAdd, Nat.reduceMul, Nat.reduceLeDiff, Int.reduceLT, Int.reduceLE, Int.reduceToNat, Int.reduceAdd, Int.reduceNeg, Int.reduceEq]
    refine wx_call hc ?_
    simp only [go_sem, Nat.reduceEqDiff, reduceIte, Nat.reduceAdd, Nat.reduceMul, Nat.reduceLeDiff, Int.reduceLT, Int.reduceLE, Int.reduceToNat, Int.reduceAdd, Int.reduceNeg, Int.reduceEq, k0, hself, List.set_set, cells1 hw, hw, List.length_set, hwr, q0, q0', q2, q3, cells1 q4, q4]
    exact ⟨rfl, rfl⟩
theorem upd_own {p : Option Ent × Option Ent} {x : Ent} (h : upd p = some x) : x.own = x := by
  match p, h with
  | (some y, none), h =>
    rw [upd_l] at h
    split at h
    · cases h; rfl
    · cases h
  | (some y, some y'), h => cases h; rfl
  | (none, some y), h => cases h; rfl
theorem ownL_eq {L : List (V × Ent)} {l : List Ent} (h : L.map (·.2) = l) (ho : ∀ x ∈ l, x.own = x) : ownL L = l.map Ent.row := by
  subst h
  unfold ownL
  rw [List.map_map]
  refine List.map_congr_left fun p hp => ?_
  show p.2.own.row = p.2.row
  rw [ho p.2 (List.mem_map_of_mem hp)]
def UpdN (n : Int) (b now : List Ent) (v : V) (s : St) : Prop := ∃ u L, v = .tup [.agg [.int .i64 (updRes n b now).1, u], .int .i64 (updRes n b now).2.2] ∧ NG s 0 u L ∧ L.map (·.2) = (updRes n b now).2.1 ∧ Cl s
theorem ng_lo {s : St} {lo lo2 : Nat} {u : V} {L : List (V × Ent)} (h : NG s lo u L) (hl : lo2 ≤ lo) : NG s lo2 u L := ⟨gw_lo h.1 hl, fun p hp => ⟨(h.2 p hp).1, gw_lo (h.2 p hp).2 hl⟩⟩
theorem res2 {τ : St} {i x y : Nat} {a b : V} {e : Env} {k : IntKind} {c : Int} (h : τ[i]? = some (.row [a, b] 25 0 0)) (h1 : e.get x = .ptr i 0 0) (h2 : e.get y = .int k c) : resV e τ [AR.cell x 2 false, AR.tmp y] = some (.tup [.agg [a, b], .int k c]) := by
  simp only [resV, List.mapM_cons, List.mapM_nil, resOne, h1, h2, loadV, h]
  rfl
theorem updateN_own (z z' : Bool) (t t' : Nat) (n : Int) (b now : List Ent) (ho : okE b) (ho' : okE now) : ∃ v σ0, FnO TT PT 30 [.agg [.int .i64 n, SL z t (b.map Ent.row)], SL z' t' (now.map Ent.row)] v σ0 ∧ UpdN n b now v σ0 := by
  have hf := fits_fn z z' t t' n b now ho ho'
  refine fno_ex (P := UpdN n b now) T30 rfl ?_ ?_
  rotate_left
  · rintro v s ⟨u, L, rfl, h1, h2, h3⟩
    refine ⟨h3, ?_, fun i hi => ?_⟩
    · have hw := gw_cell h1.1
      simp only [okRes, okRes1, List.all_cons, List.all_nil, Bool.and_true, hw]
      rfl
    · simp only [refsL, V.refs, List.nil_append, List.append_nil] at hi
      exact gw_refs h1.1 i hi
  unfold UpdN updRes
  cases hv : (validB n b && validB 1 now)
  · rw [hv] at hf
    simp only [go_sem, Nat.reduceEqDiff, reduceIte, Nat.reduceAdd, Nat.reduceMul, Nat.reduceLeDiff, Int.reduceLT, Int.reduceLE, Int.reduceToNat, Int.reduceAdd, Int.reduceNeg, Int.reduceEq]
    refine wx_fn hf (by simp only [go_sem]) ?_
    simp only [go_sem, Nat.reduceEqDiff, reduceIte, Nat.reduceAdd, Nat.reduceMul, Nat.reduceLeDiff, Int.reduceLT, Int.reduceLE, Int.reduceToNat, Int.reduceAdd, Int.reduceNeg, Int.reduceEq]
    exact ⟨.tup [.agg [.int .i64 0, .nils], .int .i64 1], res2 rfl rfl rfl, .nils, [], rfl, ng_nil, rfl, cl_rows (by simp only [go_sem]) rfl⟩
  · rw [hv] at hf
    simp only [Bool.and_eq_true] at hv
    obtain ⟨b1, b2, b3, b4, b5⟩ := valid_parts hv.1
    obtain ⟨c1, c2, c3, c4, c5⟩ := valid_parts hv.2
    have hw : IntKind.i64.wrap (n + 1) = n + 1 := wrap64 (by omega)
    obtain ⟨s', hth, hi⟩ := merge_th 63 2 okV (fun _ => okV_len) (Iupn 3 2 (n + 1) [.row [.int .i64 n, SL z t (b.map Ent.row)] 25 0 0, .row [.int .i64 0, .nils] 25 0 0]) 3 (fun d s h => ⟨h.cl, h.len⟩) z t z' t' b now
      (fun d p q s hq h p1 p2 p3 => vupn_th (by omega) d p s (split_len hq b1 c1) h p1 p2 p3) b3 c3 [.row [.int .i64 n, SL z t (b.map Ent.row)] 25 0 0, .row [.int .i64 0, .nils] 25 0 0, .row [.int .i64 (n + 1), .nils] 25 0 0] rfl
      ⟨cl_push (cl_rows (by simp only [go_sem]) rfl) (by simp [Ob.refs, refsL, V.refs]), by simp, ⟨.nils, [], rfl, ng_nil, rfl⟩, fun j hj => by
        match j, hj with
        | 0, _ => rfl
        | 1, _ => rfl⟩
    obtain ⟨hcl, hl3, ⟨u, L, hu, hg, hL⟩, hold⟩ := hi
    have hL : L.map (·.2) = updL b now := hL
    have h0 := hold 0 (by omega)
    have h1 := hold 1 (by omega)
    have hst : ∀ X : Ob, (s'.set 1 X)[1]? = some X := fun X => List.getElem?_set_self (by omega)
    have hst2 : ∀ X : Ob, (s'.set 1 X)[2]? = s'[2]? := fun X => List.getElem?_set_ne (by omega)
    have hlu : lenV u = some (.int .i64 ((updL b now).length : Int)) := by
      have := gw_len hg.1
      rw [List.length_map] at this
      rw [← hL, List.length_map]
      exact this
    have huc := gw_cell hg.1
    have hur := gw_refs hg.1
    simp only [List.getElem?_cons_zero, List.getElem?_cons_succ] at h0 h1
    have hcs : Cl (s'.set 1 (.row [.int .i64 0, .nils] 25 0 0)) := cl_set hcl (by simp [Ob.refs, refsL, V.refs])
    cases hn : (n == 1073741824)
    · have hn' : ¬ n = 1073741824 := by simpa using hn
      cases hm : decide ((64 : Int) < ((updL b now).length : Int))
      · have hm' : ¬ (n = 1073741824 ∨ 64 < (updL b now).length) := by simp at hm; omega
        simp only [go_sem, Nat.reduceEqDiff, reduceIte, Nat.reduceAdd, Nat.reduceMul, Nat.reduceLeDiff, Int.reduceLT, Int.reduceLE, Int.reduceToNat, Int.reduceAdd, Int.reduceNeg, Int.reduceEq]
        refine wx_fn hf (by simp only [go_sem]) ?_
        simp only [go_sem, Nat.reduceEqDiff, reduceIte, Nat.reduceAdd, Nat.reduceMul, Nat.reduceLeDiff, Int.reduceLT, Int.reduceLE, Int.reduceToNat, Int.reduceAdd, Int.reduceNeg, Int.reduceEq, hw]
        refine wx_th hth ?_
        simp only [go_sem, Nat.reduceEqDiff, reduceIte, Nat.reduceAdd, Nat.reduceMul, Nat.reduceLeDiff, Int.reduceLT, Int.reduceLE, Int.reduceToNat, Int.reduceAdd, Int.reduceNeg, Int.reduceEq, h0, h1, hu, hn, hlu, hm, cells1 huc, huc, hst, hst2]
        rw [if_neg hm']
        refine ⟨.tup [.agg [.int .i64 (n + 1), u], .int .i64 0], res2 (hst _) rfl rfl, u, L, rfl, ng_lo (ng_keep hg fun j hj _ => by rw [List.getElem?_set_ne (by omega)]) (Nat.zero_le _), hL, cl_set hcl fun i hi => ?_⟩
        simp only [Ob.refs, refsL, V.refs, List.nil_append, List.append_nil] at hi
        exact hur i hi
      · have hm' : n = 1073741824 ∨ 64 < (updL b now).length := by simp at hm; omega
        simp only [go_sem, Nat.reduceEqDiff, reduceIte, Nat.reduceAdd, Nat.reduceMul, Nat.reduceLeDiff, Int.reduceLT, Int.reduceLE, Int.reduceToNat, Int.reduceAdd, Int.reduceNeg, Int.reduceEq]
        refine wx_fn hf (by simp only [go_sem]) ?_
        simp only [go_sem, Nat.reduceEqDiff, reduceIte, Nat.reduceAdd, Nat.reduceMul, Nat.reduceLeDiff, Int.reduceLT, Int.reduceLE, Int.reduceToNat, Int.reduceAdd, Int.reduceNeg, Int.reduceEq, hw]
        refine wx_th hth ?_
        simp only [go_sem, Nat.reduceEqDiff, reduceIte, Nat.reduceAdd, Nat.reduceMul, Nat.reduceLeDiff, Int.reduceLT, Int.reduceLE, Int.reduceToNat, Int.reduceAdd, Int.reduceNeg, Int.reduceEq, h0, h1, hu, hn, hlu, hm, hst, hst2]
        rw [if_pos hm']
        exact ⟨.tup [.agg [.int .i64 0, .nils], .int .i64 2], res2 (hst _) rfl rfl, .nils, [], rfl, ng_nil, rfl, hcs⟩
    · have hm' : n = 1073741824 ∨ 64 < (updL b now).length := .inl (by simpa using hn)
      simp only [go_sem, Nat.reduceEqDiff, reduceIte, Nat.reduceAdd, Nat.reduceMul, Nat.reduceLeDiff, Int.reduceLT, Int.reduceLE, Int.reduceToNat, Int.reduceAdd, Int.reduceNeg, Int.reduceEq]
      refine wx_fn hf (by simp only [go_sem]) ?_
      simp only [go_sem, Nat.reduceEqDiff, reduceIte, Nat.reduceAdd, Nat.reduceMul, Nat.reduceLeDiff, Int.reduceLT, Int.reduceLE, Int.reduceToNat, Int.reduceAdd, Int.reduceNeg, Int.reduceEq, hw]
      refine wx_th hth ?_
      simp only [go_sem, Nat.reduceEqDiff, reduceIte, Nat.reduceAdd, Nat.reduceMul, Nat.reduceLeDiff, Int.reduceLT, Int.reduceLE, Int.reduceToNat, Int.reduceAdd, Int.reduceNeg, Int.reduceEq, h0, h1, hu, hn, hst, hst2]
      rw [if_pos hm']
      exact ⟨.tup [.agg [.int .i64 0, .nils], .int .i64 2], res2 (hst _) rfl rfl, .nils, [], rfl, ng_nil, rfl, hcs⟩
theorem updRes_self {n : Int} {b now : List Ent} : ∀ x ∈ (updRes n b now).2.1, x.own = x := by
  unfold updRes
  split
  · split
    · intro x hx; cases hx
    · intro x hx
      obtain ⟨p, -, hp⟩ := List.mem_filterMap.1 hx
      exact upd_own hp
  · intro x hx; cases hx
end Go.Proofs.YticpkkjnajmpoaaGreatDoor.KM
