/- Walks: the program's parser of baselines. -/
import Derived.Test.YtlehfgdhebapeaaGreatDoorZg
set_option linter.all false
namespace Go.Proofs.YtlehfgdhebapeaaGreatDoor.KM
open Go
theorem cut_some {s : List UInt8} (h : s.length < 4294967281) : cutS [.str s, .str [10]] = some (.tup [.str (Lib.cut s [10]).1, .str (Lib.cut s [10]).2.1, .bool (Lib.cut s [10]).2.2]) := by
  unfold cutS
  simp only
  rw [if_pos h]
theorem cut_le (s : List UInt8) : (Lib.cut s [10]).1.length ≤ s.length ∧ (Lib.cut s [10]).2.1.length ≤ s.length ∧ (s ≠ [] → (Lib.cut s [10]).2.1.length < s.length) := by
  unfold Lib.cut
  split
  · refine ⟨by simp; omega, by simp, fun hn => ?_⟩
    have := List.length_pos_iff.2 hn
    simp
    omega
  · refine ⟨by simp, by simp, fun hn => ?_⟩
    exact List.length_pos_iff.2 hn
theorem valid_text {n : Int} {l : List Ent} (h : validB n l = true) : TextOk n l := by
  have ht := ent_texts h
  have hn := valid_i64 h
  have hv := h
  unfold validB at hv
  simp only [Bool.and_eq_true, decide_eq_true_eq] at hv
  have hs : ∀ e ∈ l, e.sites.length ≤ 4 ∧ ∀ k ∈ e.sites, (keyText k).length ≤ 2000 := fun e he => by
    have hb := validL_ent hv.2 e he
    unfold entB kindB at hb
    simp only [Bool.or_eq_true, Bool.and_eq_true, decide_eq_true_eq, beq_iff_eq] at hb
    refine ⟨by omega, fun k hk => ?_⟩
    have hkb := (ht e he).2 k hk
    unfold keyB isNameE textB at hkb
    simp only [Bool.and_eq_true, decide_eq_true_eq] at hkb
    have := itoa_len k.2.2
    unfold keyText
    simp only [List.length_cons, List.length_append, List.length_nil]
    omega
  have he : ∀ e ∈ l, (entText e).length ≤ 10000 := fun e he => by
    obtain ⟨h1, h2⟩ := hs e he
    have h3 := flat_len_le keyText 2000 e.sites h2
    have i1 := itoa_len e.kind
    have i2 := itoa_len e.seen
    have i3 := itoa_len e.missed
    have h4 : e.sites.length * 2000 ≤ 4 * 2000 := Nat.mul_le_mul_right 2000 h1
    unfold entText headText
    simp only [List.length_cons, List.length_append, List.length_nil]
    omega
  refine ⟨hn, fun e hm => ⟨(ht e hm).1, by have := (hs e hm).1; omega⟩, by omega, ?_⟩
  have h5 := flat_len_le entText 10000 l he
  have h6 : l.length * 10000 ≤ 64 * 10000 := Nat.mul_le_mul_right 10000 hv.1.2
  have i1 := itoa_len n
  unfold baseText firstText
  simp only [List.length_cons, List.length_append, List.length_nil]
  omega
theorem addSite_size (k : Key) (N : Nat) : ∀ l : List Ent, (addSite k l).length = l.length ∧ ((∀ x ∈ l, x.sites.length ≤ N) → ∀ x ∈ addSite k l, x.sites.length ≤ N + 1)
  | [] => ⟨rfl, fun _ x hx => by cases hx⟩
  | [a] => ⟨rfl, fun h x hx => by
    rw [List.mem_singleton.1 hx]
    have := h a List.mem_cons_self
    simp
    omega⟩
  | a :: b :: l => by
    obtain ⟨h1, h2⟩ := addSite_size k N (b :: l)
    have e : addSite k (a :: b :: l) = a :: addSite k (b :: l) := by
      rw [addSite]
      simp
    rw [e]
    refine ⟨by simp [h1], fun h x hx => ?_⟩
    rcases List.mem_cons.1 hx with rfl | hx
    · have := h x List.mem_cons_self; omega
    · exact h2 (fun y hy => h y (List.mem_cons_of_mem _ hy)) x hx
theorem nEnt_size {l : List Ent} {N : Nat} (h : ∀ x ∈ l, x.sites.length ≤ N) (a b c : Int) : ∀ x ∈ l ++ [nEnt a b c], x.sites.length ≤ N + 1 := fun x hx => by
  rcases List.mem_append.1 hx with hx | hx
  · have := h x hx; omega
  · rw [List.mem_singleton.1 hx]; simp [nEnt]
theorem lineA_size {l l' : List Ent} {s : List UInt8} {N : Nat} (h : lineA l s = some l') (h1 : l.length ≤ N) (h2 : ∀ x ∈ l, x.sites.length ≤ N) : l'.length ≤ N + 1 ∧ ∀ x ∈ l', x.sites.length ≤ N + 1 := by
  unfold lineA at h
  split at h
  · split at h
    · split at h
      · cases h; exact ⟨by simp; omega, nEnt_size h2 _ _ _⟩
      · cases h
    · split at h
      · split at h
        · split at h
          · cases h
          · cases h
            have := fun k => addSite_size k N l
            exact ⟨by rw [(this _).1]; omega, (this _).2 h2⟩
        · cases h
      · cases h
  · cases h
def PV (n : Int) (l : List Ent) (e : Int) (v : V) (s : St) : Prop := ∃ u L, v = .tup [.agg [.int .i64 n, u], .int .i64 e] ∧ PG s 0 u L ∧ L.map (·.2) = l ∧ Cl s
def PI (n : Int) (l : List Ent) (s : St) : Prop := Cl s ∧ s[0]? = some (.row [.int .i64 0, .nils] 61 0 0) ∧ ∃ u L, s[1]? = some (.row [.int .i64 n, u] 61 0 0) ∧ PG s 2 u L ∧ L.map (·.2) = l
theorem res2p {τ : St} {i x y : Nat} {a b : V} {e : Env} {k : IntKind} {c : Int} (h : τ[i]? = some (.row [a, b] 61 0 0)) (h1 : e.get x = .ptr i 0 0) (h2 : e.get y = .int k c) : resV e τ [AR.cell x 2 false, AR.tmp y] = some (.tup [.agg [a, b], .int k c]) := by
  simp only [resV, List.mapM_cons, List.mapM_nil, resOne, h1, h2, loadV, h]
  rfl
theorem pg_lo {s : St} {lo lo2 : Nat} {u : V} {L : List (V × Ent)} (h : PG s lo u L) (hl : lo2 ≤ lo) : PG s lo2 u L := ⟨gw_lo h.1 hl, fun p hp => gw_lo (h.2.1 p hp) hl, h.2.2⟩
theorem pv_zero {s : St} (hc : Cl s) : PV 0 [] 3 (.tup [.agg [.int .i64 0, .nils], .int .i64 3]) s := ⟨.nils, [], rfl, pg_nil, rfl, hc⟩
theorem pv_end {n : Int} {l : List Ent} {e : Int} : ∀ v s, PV n l e v s → Cl s ∧ okRes v = true ∧ ∀ i ∈ v.refs, i < s.length := by
  rintro v s ⟨u, L, rfl, h1, h2, h3⟩
  refine ⟨h3, ?_, fun i hi => ?_⟩
  · have hw := gw_cell h1.1
    simp only [okRes, okRes1, List.all_cons, List.all_nil, Bool.and_true, hw]
    rfl
  · simp only [refsL, V.refs, List.nil_append, List.append_nil] at hi
    exact gw_refs h1.1 i hi
theorem cl_zero {s : St} (hc : Cl s) (j : Nat) : Cl (s.set j (.row [.int .i64 0, .nils] 61 0 0)) := cl_set hc (by simp [Ob.refs, refsL, V.refs])
theorem pg_ow {s : St} {lo : Nat} {u : V} {L : List (V × Ent)} {l : List Ent} (h : PG s lo u L) (hL : L.map (·.2) = l) (ho : ∀ e ∈ l, e.own = e) (n : Int) : OW s (.agg [.int .i64 n, u]) (.agg [.int .i64 n, SL true 0 (l.map Ent.row)]) := by
  have := pg_on h
  rw [owns_eq hL ho] at this
  exact ow_agg (.cons (on_oc (oc_row rfl)) (.cons this .nil))
theorem parse_own (str : List UInt8) (hlen : str.length ≤ 1000000) : ∃ v σ0, FnO TT PT 27 [.str str] v σ0 ∧ PV (resA str).1 (resA str).2.1 (resA str).2.2 v σ0 := by
  refine fno_ex (P := PV (resA str).1 (resA str).2.1 (resA str).2.2) T27 rfl ?_ pv_end
  have hcut := cut_some (s := str) (by omega)
  obtain ⟨cl1, cl2, -⟩ := cut_le str
  have hcp : cpS [.str (Lib.cut str [10]).1, .str [98, 97, 115, 101, 108, 105, 110, 101, 32]] = some (.tup [.str (Lib.trimPrefix (Lib.cut str [10]).1 headB), .bool (Lib.hasPrefix (Lib.cut str [10]).1 headB)]) := rfl
  have htl : (Lib.trimPrefix (Lib.cut str [10]).1 headB).length ≤ 281474976710656 := by
    unfold Lib.trimPrefix
    split
    · simp; omega
    · omega
  have hpA : ∀ R, runA ((Lib.cut str [10]).2.1.length + 1) [] (Lib.cut str [10]).2.1 = R → (Lib.hasPrefix (Lib.cut str [10]).1 headB && okA (Lib.trimPrefix (Lib.cut str [10]).1 headB)) = true → parseA str = R.map fun l => (numA (Lib.trimPrefix (Lib.cut str [10]).1 headB), l) := fun R hR h => by
    unfold parseA
    rw [if_pos h, hR]
  have hpN : (Lib.hasPrefix (Lib.cut str [10]).1 headB && okA (Lib.trimPrefix (Lib.cut str [10]).1 headB)) = false → resA str = (0, [], 3) := fun h => by
    unfold resA parseA
    rw [if_neg (by rw [h]; simp)]
  generalize (Lib.cut str [10]).1 = first at hcut hcp htl hpA hpN cl1
  generalize (Lib.cut str [10]).2.1 = rest0 at hcut hpA cl2
  generalize (Lib.cut str [10]).2.2 = found at hcut
  generalize Lib.trimPrefix first headB = runs at hcp htl hpA hpN
  have hzero : ∀ (τ : St), Cl τ → τ[0]? = some (.row [.int .i64 0, .nils] 61 0 0) → Cl (τ.set 0 (.row [.int .i64 0, .nils] 61 0 0)) := fun τ h _ => cl_zero h 0
  have hc00 : Cl [.row [.int .i64 0, .nils] 61 0 0, .row [.int .i64 0, .nils] 61 0 0] := cl_rows (by simp only [go_sem]) (by simp only [go_sem])
  cases hp : Lib.hasPrefix first headB
  · rw [hp] at hcp hpN
    rw [hpN rfl]
    obtain ⟨e0, ha, -⟩ := atoi_v runs htl
    simp only [go_sem, Nat.reduceEqDiff, reduceIte, Nat.reduceAdd, Nat.reduceMul, Nat.reduceLeDiff, Int.reduceLT, Int.reduceLE, Int.reduceToNat, Int.reduceAdd, Int.reduceNeg, Int.reduceEq]
    refine wx_pr P57 (by simp only [go_sem]) hcut ?_
    simp only [go_sem, Nat.reduceEqDiff, reduceIte, Nat.reduceAdd, Nat.reduceMul, Nat.reduceLeDiff, Int.reduceLT, Int.reduceLE, Int.reduceToNat, Int.reduceAdd, Int.reduceNeg, Int.reduceEq]
    refine wx_pr P58 (by simp only [go_sem]) hcp ?_
    simp only [go_sem, Nat.reduceEqDiff, reduceIte, Nat.reduceAdd, Nat.reduceMul, Nat.reduceLeDiff, Int.reduceLT, Int.reduceLE, Int.reduceToNat, Int.reduceAdd, Int.reduceNeg, Int.reduceEq]
    refine wx_pr P59 (by simp only [go_sem]) ha ?_
    simp only [go_sem, Nat.reduceEqDiff, reduceIte, Nat.reduceAdd, Nat.reduceMul, Nat.reduceLeDiff, Int.reduceLT, Int.reduceLE, Int.reduceToNat, Int.reduceAdd, Int.reduceNeg, Int.reduceEq]
    exact ⟨_, res2p rfl rfl rfl, pv_zero hc00⟩
  rw [hp] at hcp hpN hpA
  cases hok : okA runs
  · rw [hok] at hpN
    rw [hpN rfl]
    have ha := atoi_f hok htl
    simp only [go_sem, Nat.reduceEqDiff, reduceIte, Nat.reduceAdd, Nat.reduceMul, Nat.reduceLeDiff, Int.reduceLT, Int.reduceLE, Int.reduceToNat, Int.reduceAdd, Int.reduceNeg, Int.reduceEq]
    refine wx_pr P57 (by simp only [go_sem]) hcut ?_
    simp only [go_sem, Nat.reduceEqDiff, reduceIte, Nat.reduceAdd, Nat.reduceMul, Nat.reduceLeDiff, Int.reduceLT, Int.reduceLE, Int.reduceToNat, Int.reduceAdd, Int.reduceNeg, Int.reduceEq]
    refine wx_pr P58 (by simp only [go_sem]) hcp ?_
    simp only [go_sem, Nat.reduceEqDiff, reduceIte, Nat.reduceAdd, Nat.reduceMul, Nat.reduceLeDiff, Int.reduceLT, Int.reduceLE, Int.reduceToNat, Int.reduceAdd, Int.reduceNeg, Int.reduceEq]
    refine wx_pr P59 (by simp only [go_sem]) ha ?_
    simp only [go_sem, Nat.reduceEqDiff, reduceIte, Nat.reduceAdd, Nat.reduceMul, Nat.reduceLeDiff, Int.reduceLT, Int.reduceLE, Int.reduceToNat, Int.reduceAdd, Int.reduceNeg, Int.reduceEq]
    exact ⟨_, res2p rfl rfl rfl, pv_zero hc00⟩
  have ha := atoi_t hok htl
  rw [hok] at hpA
  have hres : ∀ R, runA (rest0.length + 1) [] rest0 = R → resA str = match R with
      | some l => if validB (numA runs) l = true ∧ baseText (numA runs) l = str then (numA runs, l, 0) else (0, [], 3)
      | none => (0, [], 3) := fun R hR => by
    unfold resA
    rw [hpA R hR rfl]
    cases R <;> rfl
  generalize numA runs = n at ha hres
  obtain ⟨R, hR⟩ : ∃ R, runA (rest0.length + 1) [] rest0 = R := ⟨_, rfl⟩
  have hres := hres R hR
  simp only [go_sem, Nat.reduceEqDiff, reduceIte, Nat.reduceAdd, Nat.reduceMul, Nat.reduceLeDiff, Int.reduceLT, Int.reduceLE, Int.reduceToNat, Int.reduceAdd, Int.reduceNeg, Int.reduceEq]
  refine wx_pr P57 (by simp only [go_sem]) hcut ?_
  simp only [go_sem, Nat.reduceEqDiff, reduceIte, Nat.reduceAdd, Nat.reduceMul, Nat.reduceLeDiff, Int.reduceLT, Int.reduceLE, Int.reduceToNat, Int.reduceAdd, Int.reduceNeg, Int.reduceEq]
  refine wx_pr P58 (by simp only [go_sem]) hcp ?_
  simp only [go_sem, Nat.reduceEqDiff, reduceIte, Nat.reduceAdd, Nat.reduceMul, Nat.reduceLeDiff, Int.reduceLT, Int.reduceLE, Int.reduceToNat, Int.reduceAdd, Int.reduceNeg, Int.reduceEq]
  refine wx_pr P59 (by simp only [go_sem]) ha ?_
  simp only [go_sem, Nat.reduceEqDiff, reduceIte, Nat.reduceAdd, Nat.reduceMul, Nat.reduceLeDiff, Int.reduceLT, Int.reduceLE, Int.reduceToNat, Int.reduceAdd, Int.reduceNeg, Int.reduceEq]
  have hown0 : ∀ (f : Nat) (l : List Ent) (s : List UInt8) (r : List Ent), (∀ e ∈ l, e.own = e) → runA f l s = some r → ∀ e ∈ r, e.own = e := runA_own
  refine loop_w (α := List UInt8 × List Ent × Nat × St) (fun a => a.1.length) (fun a => [(0, .str str), (2, .ptr 0 0 0), (4, .ptr 1 0 0), (6, .str a.1)]) (fun a => a.2.2.2)
    (fun a => PI n a.2.1 a.2.2.2 ∧ (∃ f, a.1.length < f ∧ runA f a.2.1 a.1 = R) ∧ (∀ e ∈ a.2.1, e.own = e) ∧ a.2.2.1 + a.1.length ≤ 1000000 ∧ a.2.1.length ≤ a.2.2.1 ∧ ∀ x ∈ a.2.1, x.sites.length ≤ a.2.2.1) ?_ (rest0, [], 0, [.row [.int .i64 0, .nils] 61 0 0, .row [.int .i64 n, .nils] 61 0 0])
    ⟨⟨cl_rows (by simp only [go_sem]) (by simp only [go_sem]), rfl, .nils, [], rfl, pg_nil, rfl⟩, ⟨_, Nat.lt_succ_self _, hR⟩, (fun e he => by cases he), (by show 0 + rest0.length ≤ 1000000; omega), Nat.le_refl _, (fun x hx => by cases hx)⟩
  rintro ⟨rest, l, N, s⟩ ⟨⟨hc, h0, u, L, h1, hg, hL⟩, ⟨f, hf, hr⟩, hown, hN, hl, hls⟩ ih
  simp only at hc h0 h1 hg hL hf hr hown hN hl hls ih
  have hs2 : 2 ≤ s.length := by have := (List.getElem?_eq_some_iff.1 h1).1; omega
  obtain ⟨f, rfl⟩ : ∃ f', f = f' + 1 := ⟨f - 1, by omega⟩
  refine w_rep (by delta lp27_0; exact rfl) ?_
  have hset0 : ∀ X : Ob, (s.set 0 X)[0]? = some X := fun X => List.getElem?_set_self (by omega)
  by_cases hrn : rest = []
  · subst hrn
    rw [runA, if_pos rfl] at hr
    subst hr
    simp only at hres
    have how := pg_ow hg hL hown n
    have hoE : okE l := fun x hx => by have := hls x hx; omega
    have hv := valid_fn true 0 n l hoE
    have hnn : (!(([] : List UInt8) == [])) = false := rfl
    cases hb : validB n l
    · rw [hb] at hv hres
      rw [if_neg (by simp)] at hres
      rw [hres]
      simp only [go_sem, Nat.reduceEqDiff, reduceIte, Nat.reduceAdd, Nat.reduceMul, Nat.reduceLeDiff, Int.reduceLT, Int.reduceLE, Int.reduceToNat, Int.reduceAdd, Int.reduceNeg, Int.reduceEq, hnn, h1]
      refine wx_ow (.cons how .nil) hv (by rfl) ?_
      simp only [go_sem, Nat.reduceEqDiff, reduceIte, Nat.reduceAdd, Nat.reduceMul, Nat.reduceLeDiff, Int.reduceLT, Int.reduceLE, Int.reduceToNat, Int.reduceAdd, Int.reduceNeg, Int.reduceEq, h0, hset0]
      exact ⟨_, res2p (hset0 _) rfl rfl, pv_zero (cl_zero hc 0)⟩
    · rw [hb] at hv hres
      have hfm := format_fn true 0 n l (valid_text hb)
      cases hq : (baseText n l == str)
      · have hq' : ¬ baseText n l = str := by simpa using hq
        rw [if_neg (fun h => hq' h.2)] at hres
        rw [hres]
        simp only [go_sem, Nat.reduceEqDiff, reduceIte, Nat.reduceAdd, Nat.reduceMul, Nat.reduceLeDiff, Int.reduceLT, Int.reduceLE, Int.reduceToNat, Int.reduceAdd, Int.reduceNeg, Int.reduceEq, hnn, h1]
        refine wx_ow (.cons how .nil) hv (by rfl) ?_
        simp only [go_sem, Nat.reduceEqDiff, reduceIte, Nat.reduceAdd, Nat.reduceMul, Nat.reduceLeDiff, Int.reduceLT, Int.reduceLE, Int.reduceToNat, Int.reduceAdd, Int.reduceNeg, Int.reduceEq, h1]
        refine wx_ow (.cons how .nil) hfm (by rfl) ?_
        simp only [go_sem, Nat.reduceEqDiff, reduceIte, Nat.reduceAdd, Nat.reduceMul, Nat.reduceLeDiff, Int.reduceLT, Int.reduceLE, Int.reduceToNat, Int.reduceAdd, Int.reduceNeg, Int.reduceEq, hq, h0, hset0]
        exact ⟨_, res2p (hset0 _) rfl rfl, pv_zero (cl_zero hc 0)⟩
      · have hq' : baseText n l = str := by simpa using hq
        rw [if_pos ⟨rfl, hq'⟩] at hres
        rw [hres]
        have huc := gw_cell hg.1
        simp only [go_sem, Nat.reduceEqDiff, reduceIte, Nat.reduceAdd, Nat.reduceMul, Nat.reduceLeDiff, Int.reduceLT, Int.reduceLE, Int.reduceToNat, Int.reduceAdd, Int.reduceNeg, Int.reduceEq, hnn, h1]
        refine wx_ow (.cons how .nil) hv (by rfl) ?_
        simp only [go_sem, Nat.reduceEqDiff, reduceIte, Nat.reduceAdd, Nat.reduceMul, Nat.reduceLeDiff, Int.reduceLT, Int.reduceLE, Int.reduceToNat, Int.reduceAdd, Int.reduceNeg, Int.reduceEq, h1]
        refine wx_ow (.cons how .nil) hfm (by rfl) ?_
        simp only [go_sem, Nat.reduceEqDiff, reduceIte, Nat.reduceAdd, Nat.reduceMul, Nat.reduceLeDiff, Int.reduceLT, Int.reduceLE, Int.reduceToNat, Int.reduceAdd, Int.reduceNeg, Int.reduceEq, hq, h1, h0, cells1 huc, huc, hset0]
        refine ⟨_, res2p (hset0 _) rfl rfl, u, L, rfl, pg_lo (pg_keep hg fun j hj _ => by rw [List.getElem?_set_ne (by omega)]) (by omega), hL, cl_set hc fun i hi => ?_⟩
        simp only [Ob.refs, refsL, V.refs, List.append_nil, List.nil_append] at hi
        exact gw_refs hg.1 i hi
  · obtain ⟨c1, c2, c3⟩ := cut_le rest
    have c3 := c3 hrn
    have hcut2 := cut_some (s := rest) (by omega)
    have hnn : (!(rest == [])) = true := by simpa using hrn
    rw [runA, if_neg hrn] at hr
    obtain ⟨hA, hB⟩ := parseLine_th (Lib.cut rest [10]).1 (by omega) hc h1 hg hL (by omega) (fun x hx => by have := hls x hx; omega)
    generalize (Lib.cut rest [10]).1 = line at hr hA hB hcut2 c1
    generalize (Lib.cut rest [10]).2.1 = rest2 at hr hcut2 c2 c3
    generalize (Lib.cut rest [10]).2.2 = fnd at hcut2
    cases hla : lineA l line with
    | none =>
      rw [hla] at hr
      simp only at hr
      subst hr
      simp only at hres
      rw [hres]
      obtain ⟨s', hth, hc', hk⟩ := hB hla
      have h0' : s'[0]? = some (.row [.int .i64 0, .nils] 61 0 0) := (hk 0 (by omega)).trans h0
      have hset0' : ∀ X : Ob, (s'.set 0 X)[0]? = some X := fun X => List.getElem?_set_self (List.getElem?_eq_some_iff.1 h0').1
      simp only [go_sem, Nat.reduceEqDiff, reduceIte, Nat.reduceAdd, Nat.reduceMul, Nat.reduceLeDiff, Int.reduceLT, Int.reduceLE, Int.reduceToNat, Int.reduceAdd, Int.reduceNeg, Int.reduceEq, hnn]
      refine wx_pr P57 (by simp only [go_sem]) hcut2 ?_
      simp only [go_sem, Nat.reduceEqDiff, reduceIte, Nat.reduceAdd, Nat.reduceMul, Nat.reduceLeDiff, Int.reduceLT, Int.reduceLE, Int.reduceToNat, Int.reduceAdd, Int.reduceNeg, Int.reduceEq]
      refine wx_th hth ?_
      simp only [go_sem, Nat.reduceEqDiff, reduceIte, Nat.reduceAdd, Nat.reduceMul, Nat.reduceLeDiff, Int.reduceLT, Int.reduceLE, Int.reduceToNat, Int.reduceAdd, Int.reduceNeg, Int.reduceEq, h0', hset0']
      exact ⟨_, res2p (hset0' _) rfl rfl, pv_zero (cl_zero hc' 0)⟩
    | some l' =>
      rw [hla] at hr
      simp only at hr
      obtain ⟨s', hth, hc', hk1, hk2, u', L', h1', hg', hL'⟩ := hA l' hla
      have hsz := lineA_size hla hl hls
      simp only [go_sem, Nat.reduceEqDiff, reduceIte, Nat.reduceAdd, Nat.reduceMul, Nat.reduceLeDiff, Int.reduceLT, Int.reduceLE, Int.reduceToNat, Int.reduceAdd, Int.reduceNeg, Int.reduceEq, hnn]
      refine wx_pr P57 (by simp only [go_sem]) hcut2 ?_
      simp only [go_sem, Nat.reduceEqDiff, reduceIte, Nat.reduceAdd, Nat.reduceMul, Nat.reduceLeDiff, Int.reduceLT, Int.reduceLE, Int.reduceToNat, Int.reduceAdd, Int.reduceNeg, Int.reduceEq]
      refine wx_th hth ?_
      simp only [go_sem, Nat.reduceEqDiff, reduceIte, Nat.reduceAdd, Nat.reduceMul, Nat.reduceLeDiff, Int.reduceLT, Int.reduceLE, Int.reduceToNat, Int.reduceAdd, Int.reduceNeg, Int.reduceEq]
      exact W_keep (ih (rest2, l', N + 1, s') c3 ⟨⟨hc', (hk2 0 (by omega)).trans h0, u', L', h1', hg', hL'⟩, ⟨f, (by show rest2.length < f; omega), hr⟩, lineA_own hown hla, (by show N + 1 + rest2.length ≤ 1000000; omega), hsz.1, hsz.2⟩) rfl
theorem parse_fn (str : List UInt8) (hlen : str.length ≤ 1000000) (ho : ∀ e ∈ (resA str).2.1, e.own = e) : Fn TT PT 27 [.str str] (.tup [.agg [.int .i64 (resA str).1, SL true 0 ((resA str).2.1.map Ent.row)], .int .i64 (resA str).2.2]) := by
  obtain ⟨v, σ0, hf, u, L, rfl, h1, h2, h3⟩ := parse_own str hlen
  exact fn_of_own hf (.cons (pg_ow h1 h2 ho _) (.cons (ow_ov (ov_set rfl)) .nil))
end Go.Proofs.YtlehfgdhebapeaaGreatDoor.KM
