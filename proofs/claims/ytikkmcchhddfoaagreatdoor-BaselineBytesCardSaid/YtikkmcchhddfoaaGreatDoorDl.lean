/- Walks: the reference's Decode. -/
import Derived.Test.YtikkmcchhddfoaaGreatDoorDk
import Derived.Test.YtikkmcchhddfoaaGreatDoorSf
set_option linter.all false
namespace Go.Proofs.YtikkmcchhddfoaaGreatDoor.KM
open Go
/-! results that are settled at the end -/
def FS (res : List AR) (v : V) (e : Env) (σ : St) : Prop := ∃ v0 js, resV e σ res = some v0 ∧ okRes v0 = true ∧ settleV σ js v0 = some v ∧ v.refs = [] ∧ back [] v = some v
theorem FnS_go {T : Nat → Option AF} {pr : Nat → Option (List V → Option V)} {f p : Nat} {res : List AR} {body : AC} {vs : List V} {v : V} (hT : T f = some ⟨p, res, false, body, none⟩) (hl : vs.length = p) (h : W T pr [.c body] (parEnv 0 vs) [] (FS res v)) : Fn T pr f vs v :=
  FnS_intro hT rfl rfl hl h
theorem fs_pair {σ : St} {e : Env} {r1 r2 : AR} {a b a' b' : V} (h1 : resV e σ [r1, r2] = some (.tup [a, b])) (hok : okRes (.tup [a, b]) = true) (ha : OV σ a a') (hb : OV σ b b') (sa : setC a' = true) (sb : setC b' = true) : FS [r1, r2] (.tup [a', b']) e σ := by
  have hr : (V.tup [a', b']).refs = [] := setL_refs (vs := [a', b']) (by simp [sa, sb])
  exact ⟨.tup [a, b], clo σ 9 (V.tup [a, b]).refs.eraseDups, h1, hok, back_pair ha hb, hr, back_pair (ov_set sa) (ov_set sb)⟩
theorem fs_set {σ : St} {e : Env} {r1 r2 : AR} {a b : V} (h1 : resV e σ [r1, r2] = some (.tup [a, b])) (hok : okRes (.tup [a, b]) = true) (sa : setC a = true) (sb : setC b = true) : FS [r1, r2] (.tup [a, b]) e σ := fs_pair h1 hok (ov_set sa) (ov_set sb) sa sb
/-- a list's object that a pure call has settled -/
theorem after_oc {σ : St} {m e lo : Nat} {u : V} {xs : List (List V)} (h : GW σ m e lo u xs) (hm : 0 < m) (hl : ∀ r ∈ xs, r.length = m) (hr : ∀ r ∈ xs, r.all V.rowB = true) {args : List V} {v : V} (ha : refsL args = u.refs) : ∃ σ', after σ args v = σ' ∧ σ'.length = σ.length ∧ (∀ j, j < lo → σ'[j]? = σ[j]?) ∧ ∀ σ2 : St, (∀ j, lo ≤ j → σ2[j]? = σ'[j]?) → OC σ2 u (SL true 0 xs) := by
  unfold after
  split
  · exact ⟨_, rfl, rfl, fun _ _ => rfl, fun σ2 h2 => gw_oc (gw_keep2 h h2) hm hl hr⟩
  · refine ⟨_, rfl, ?_⟩
    rcases h with ⟨rfl, rfl⟩ | ⟨hn, i, g, rfl, ho, hlo⟩
    · have : jsOf σ args = [] := by unfold jsOf; rw [ha]; rfl
      rw [this]
      exact ⟨rfl, fun _ _ => rfl, fun _ _ => oc_row rfl⟩
    · have : jsOf σ args = [i] := by
        unfold jsOf
        rw [ha]
        have e1 : (V.refs (.sl i g 0 xs.length m true)).eraseDups = [i] := by simp [V.refs, List.eraseDups_cons]
        rw [e1]
        have hx : refsL xs.flatten = [] := refsL_row (rows_all hr)
        simp [clo, ho, Ob.refs, hx]
      rw [this]
      refine ⟨freeze_one_len σ i, fun j hj => freeze_one σ i j (by omega), fun σ2 h2 => ?_⟩
      rw [sl_ne hn]
      have hi := (List.getElem?_eq_some_iff.1 ho).1
      refine oc_sl (z := xs.flatten.length) (e := e) ?_ hm hl hr
      rw [h2 i hlo]
      simp only [St.freeze, ho, Ob.shut]
      exact List.getElem?_set_self hi
theorem rd_ok4 {s : St} {ob k : Nat} {a b c d : V} {e : Env} {x : Nat} (q : s[ob]? = some (.row [a, b, c, d] k 0 0)) (he : e.get x = .ptr ob 0 1 := by rfl) : evalOp (.load 1 true (.t x)) e s = some (b, s) := by
  simp only [evalOp, src, he, loadV, q]
  rfl
/-! the entries -/
theorem keysS_len : ∀ (c : Nat) (s : RS), (keysS c s).1.length ≤ c
  | 0, s => Nat.le_refl _
  | c + 1, s => by
    unfold keysS
    split
    · exact Nat.zero_le _
    · have := keysS_len c (keyS s).2
      simp; omega
theorem entS_len (s : RS) : (entS s).1.sites.length ≤ 4 := by
  have h1 := keysS_len (numS 4 (numS 9 (numS 1073741824 (numS 9 s).2).2).2).1.toNat (numS 4 (numS 9 (numS 1073741824 (numS 9 s).2).2).2).2
  have h2 := numS_le (most := 4) (by omega) (numS 9 (numS 1073741824 (numS 9 s).2).2).2
  unfold entS
  simp only
  omega
theorem entsS_len : ∀ (c : Nat) (s : RS), (entsS c s).1.length ≤ c ∧ ∀ e ∈ (entsS c s).1, e.sites.length ≤ 4
  | 0, s => ⟨Nat.le_refl _, fun e he => by cases he⟩
  | c + 1, s => by
    unfold entsS
    split
    · exact ⟨Nat.zero_le _, fun e he => by cases he⟩
    · obtain ⟨h1, h2⟩ := entsS_len c (entS s).2
      refine ⟨by simp; omega, fun e he => ?_⟩
      rcases List.mem_cons.1 he with rfl | he
      · exact entS_len s
      · exact h2 e he
/-- the keys of an entry -/
theorem rkeys_w {K : List It} {Q : Env → St → Prop} {X C I : V} {d j0 : Nat} {a b e : Int} {τ : St} (h3 : 3 ≤ j0) (hd : d ≤ 4) {R : List Key × RS}
    (hok : ∀ s w, Byt R.2.1 → R.2.1.length ≤ 1000000000 → (∃ z t, s[1]? = some (rO z t R.2)) → s[j0]? = some (.row [.int .i64 a, w, .int .i64 b, .int .i64 e] 139 0 0) → GW s 3 52 (j0 + 1) w (R.1.map krow) → j0 < s.length → (∀ k, k < j0 → k ≠ 1 → s[k]? = τ[k]?) → ∀ k : Nat,
      W TT PT2 K [(0, X), (2, .ptr 0 0 0), (7, .ptr 1 0 0), (8, .ptr 2 0 0), (9, C), (10, I), (11, .ptr j0 0 0), (12, .int .i64 (d : Int)), (13, .int .i64 (k : Int))] s Q)
    (r : RS) (s : St) (hR : keysS d r = R) (hB : Byt r.1) (hl : r.1.length ≤ 1000000000) (hs1 : ∃ z t, s[1]? = some (rO z t r)) (hsj : s[j0]? = some (.row [.int .i64 a, .nils, .int .i64 b, .int .i64 e] 139 0 0)) (hj0 : j0 < s.length) (hf : ∀ k, k < j0 → k ≠ 1 → s[k]? = τ[k]?) :
    W TT PT2 (.l [0, 2, 7, 8, 9, 10, 11, 12, 13] lp31_1 :: .b 4 :: K) [(0, X), (2, .ptr 0 0 0), (7, .ptr 1 0 0), (8, .ptr 2 0 0), (9, C), (10, I), (11, .ptr j0 0 0), (12, .int .i64 (d : Int)), (13, .int .i64 0)] s Q := by
  refine loop_w (α := List Key × RS × St × V) (fun a => d - a.1.length) (fun x => [(0, X), (2, .ptr 0 0 0), (7, .ptr 1 0 0), (8, .ptr 2 0 0), (9, C), (10, I), (11, .ptr j0 0 0), (12, .int .i64 (d : Int)), (13, .int .i64 (x.1.length : Int))]) (fun x => x.2.2.1)
    (fun x => x.1.length ≤ d ∧ (x.1 ++ (keysS (d - x.1.length) x.2.1).1, (keysS (d - x.1.length) x.2.1).2) = R ∧ Byt x.2.1.1 ∧ x.2.1.1.length ≤ 1000000000 ∧ (∃ z t, x.2.2.1[1]? = some (rO z t x.2.1)) ∧ x.2.2.1[j0]? = some (.row [.int .i64 a, x.2.2.2, .int .i64 b, .int .i64 e] 139 0 0) ∧ GW x.2.2.1 3 52 (j0 + 1) x.2.2.2 (x.1.map krow) ∧ j0 < x.2.2.1.length ∧ ∀ k, k < j0 → k ≠ 1 → x.2.2.1[k]? = τ[k]?) ?_ ([], r, s, .nils) ⟨by simp, hR, hB, hl, hs1, hsj, gw_nil, hj0, hf⟩
  clear hR hB hl hs1 hsj hj0 hf
  rintro ⟨ks, r, s, w⟩ ⟨hjd, hR, hB, hl, ⟨z, t, hs1⟩, hsj, hw, hj0, hf⟩ ih
  simp only at hjd hR hB hl hs1 hsj hw hj0 hf ih
  have hs1' : s[1]? = some (.row [SL z t (bI r.1), .bool r.2] 137 0 0) := hs1
  refine w_rep (by delta lp31_1; exact rfl) ?_
  have stop : (d - ks.length = 0 ∨ r.2 = true) → R = (ks, r) := fun h => by
    rw [← hR]
    rcases h with h | h
    · rw [h]; simp [keysS]
    · cases hm : d - ks.length with
      | zero => simp [keysS]
      | succ m => simp [keysS, h]
  rcases Nat.lt_or_ge ks.length d with h | h
  · cases hbad : r.2
    · rw [hbad] at hs1'
      obtain ⟨m, hm⟩ : ∃ m, d - ks.length = m + 1 := ⟨d - ks.length - 1, by omega⟩
      have hm' : m = d - (ks.length + 1) := by omega
      rw [hm, keysS, if_neg (by rw [hbad]; simp)] at hR
      obtain ⟨τ1, q1, u1⟩ := rnum_th hs1 hl hB 60
      obtain ⟨B1, l1⟩ := numS_in (most := 60) hB
      obtain ⟨⟨z1, t1, g1⟩, e1, f1⟩ := u1
      obtain ⟨τ2, q2, u2⟩ := rtxt_th g1 (by omega) B1
      obtain ⟨B2, l2⟩ := textS_in B1
      obtain ⟨⟨z2, t2, g2⟩, e2, f2⟩ := u2
      obtain ⟨τ3, q3, u3⟩ := rtxt_th g2 (by omega) B2
      obtain ⟨B3, l3⟩ := textS_in B2
      obtain ⟨⟨z3, t3, g3⟩, e3, f3⟩ := u3
      have c2 : ∀ k, k ≠ 1 → τ2[k]? = s[k]? := fun k hk => (f2 k hk).trans (f1 k hk)
      have c3 : ∀ k, k ≠ 1 → τ3[k]? = s[k]? := fun k hk => (f3 k hk).trans (c2 k hk)
      have j2 := (c2 j0 (by omega)).trans hsj
      have j3 := (c3 j0 (by omega)).trans hsj
      have hkey : keyS r = (((textS (numS 60 r).2).1, (textS (textS (numS 60 r).2).2).1, (numS 60 r).1), (textS (textS (numS 60 r).2).2).2) := rfl
      rw [hkey] at hR
      simp only at hR
      generalize (textS (textS (numS 60 r).2).2).2 = r3 at *
      generalize (textS (textS (numS 60 r).2).2).1 = tb at *
      generalize (textS (numS 60 r).2).1 = ta at *
      generalize (numS 60 r).1 = n at *
      have hw3 : GW τ3 3 52 (j0 + 1) w (ks.map krow) := gw_kp hw fun k hk hk2 => c3 k (by omega)
      obtain ⟨w', s6, a6, w6, l6, -, f6⟩ := gw_app (bytes := 40) (y := .lst 1 [[.str ta, .str tb, .int .i64 n]]) hw3 (by omega) rfl (by omega) (krows_len _) (by simp) (by simp; omega)
      have j6 := (f6 j0 (by omega)).trans j3
      have hwc := gw_cell w6
      simp only [go_sem, Nat.reduceEqDiff, reduceIte, Nat.reduceAdd, Nat.reduceMul, Nat.reduceLeDiff, lt_t h, hs1']
      refine wx_th (thm2 q1) ?_
      simp only [go_sem, Nat.reduceEqDiff, reduceIte, Nat.reduceAdd, Nat.reduceMul, Nat.reduceLeDiff]
      refine wx_th (thm2 q2) ?_
      simp only [go_sem, Nat.reduceEqDiff, reduceIte, Nat.reduceAdd, Nat.reduceMul, Nat.reduceLeDiff]
      refine w_drw (by kernel_rfl) ?_
      simp only [go_sem, Nat.reduceEqDiff, reduceIte, Nat.reduceAdd, Nat.reduceMul, Nat.reduceLeDiff, j2]
      refine wgx_th (thm2 q3) (by repeat (first | exact trivial | refine ⟨.inl (by rfl), ?_⟩ | refine ⟨by rfl, ?_⟩ | refine ⟨.inr ⟨by rfl, by rfl⟩, ?_⟩)) ⟨.inr ⟨rd_ok4 j2 rfl, rd_ok4 j3 rfl⟩, trivial⟩ ?_
      simp only [go_sem, Nat.reduceEqDiff, reduceIte, Nat.reduceAdd, Nat.reduceMul, Nat.reduceLeDiff, a6]
      refine wgk_ef' (by repeat (first | exact trivial | refine ⟨.inl (by rfl), ?_⟩ | refine ⟨by rfl, ?_⟩ | refine ⟨.inr ⟨by rfl, by rfl⟩, ?_⟩)) (by repeat (first | exact trivial | refine ⟨.inl (by rfl), ?_⟩ | refine ⟨by rfl, ?_⟩ | refine ⟨.inr ⟨by rfl, by rfl⟩, ?_⟩)) ?_
      simp only [go_sem, Nat.reduceEqDiff, reduceIte, Nat.reduceAdd, Nat.reduceMul, Nat.reduceLeDiff, j6, cells1 hwc, hwc]
      refine wgk_ef' (by repeat (first | exact trivial | refine ⟨.inl (by rfl), ?_⟩ | refine ⟨by rfl, ?_⟩ | refine ⟨.inr ⟨by rfl, by rfl⟩, ?_⟩)) (by repeat (first | exact trivial | refine ⟨.inl (by rfl), ?_⟩ | refine ⟨by rfl, ?_⟩ | refine ⟨.inr ⟨by rfl, by rfl⟩, ?_⟩)) ?_
      simp only [go_sem, Nat.reduceEqDiff, reduceIte, Nat.reduceAdd, Nat.reduceMul, Nat.reduceLeDiff, inc64 (show ks.length < 9223372036854775807 by omega)]
      have hkm : (ks.map krow) ++ [[V.str ta, V.str tb, V.int .i64 n]] = (ks ++ [(ta, tb, n)]).map krow := by simp [krow]
      rw [hkm] at w6
      refine W_keep (ih (ks ++ [(ta, tb, n)], r3, s6.set j0 (.row [.int .i64 a, w', .int .i64 b, .int .i64 e] 139 0 0), w') (by simp; omega) ⟨by simp; omega, ?_, B3, by simp only; omega, ⟨z3, t3, ?_⟩, ?_, ?_, ?_, ?_⟩) (by first | rfl | (simp only [List.length_append, List.length_cons, List.length_nil]; done) | (simp only [List.length_append, List.length_cons, List.length_nil]; rfl))
      · simp only [List.length_append, List.length_cons, List.length_nil]
        rw [← hm', ← hR]
        simp
      · simp only
        rw [List.getElem?_set_ne (by omega), f6 1 (by omega)]
        exact g3
      · simp only
        exact List.getElem?_set_self (by omega)
      · simp only
        exact gw_set w6 (by omega)
      · simp only [List.length_set]; omega
      · simp only
        intro k hk hk2
        rw [List.getElem?_set_ne (by omega), f6 k (by omega), c3 k hk2]
        exact hf k hk hk2
    · rw [hbad] at hs1'
      have hR' := stop (.inr hbad)
      simp only [go_sem, Nat.reduceEqDiff, reduceIte, Nat.reduceAdd, Nat.reduceMul, Nat.reduceLeDiff, lt_t h, hs1']
      rw [hR'] at hok
      exact hok s w hB hl ⟨z, t, hs1⟩ hsj hw hj0 hf ks.length
  · have hR' := stop (.inl (by omega))
    simp only [go_sem, Nat.reduceEqDiff, reduceIte, Nat.reduceAdd, Nat.reduceMul, Nat.reduceLeDiff, lt_f h]
    rw [hR'] at hok
    exact hok s w hB hl ⟨z, t, hs1⟩ hsj hw hj0 hf ks.length
/-- the entries -/
theorem rents_w {K : List It} {Q : Env → St → Prop} {X : V} {n : Int} {c : Nat} (hc : c ≤ 64) {R : List Ent × RS}
    (hok : ∀ s u, (∃ z t, s[1]? = some (rO z t R.2)) → s[0]? = some (bO 0 .nils) → s[2]? = some (bO n u) → GW s 4 139 3 u (R.1.map Ent.row) → 3 ≤ s.length → ∀ k : Nat, W TT PT2 K [(0, X), (2, .ptr 0 0 0), (7, .ptr 1 0 0), (8, .ptr 2 0 0), (9, .int .i64 (c : Int)), (10, .int .i64 (k : Int))] s Q)
    (r : RS) (s : St) (hR : entsS c r = R) (hB : Byt r.1) (hl : r.1.length ≤ 1000000000) (hs1 : ∃ z t, s[1]? = some (rO z t r)) (hs0 : s[0]? = some (bO 0 .nils)) (hs2 : s[2]? = some (bO n .nils)) :
    W TT PT2 (.l [0, 2, 7, 8, 9, 10] lp31_2 :: .b 2 :: K) [(0, X), (2, .ptr 0 0 0), (7, .ptr 1 0 0), (8, .ptr 2 0 0), (9, .int .i64 (c : Int)), (10, .int .i64 0)] s Q := by
  refine loop_w (α := List Ent × RS × St × V) (fun a => c - a.1.length) (fun x => [(0, X), (2, .ptr 0 0 0), (7, .ptr 1 0 0), (8, .ptr 2 0 0), (9, .int .i64 (c : Int)), (10, .int .i64 (x.1.length : Int))]) (fun x => x.2.2.1)
    (fun x => x.1.length ≤ c ∧ (x.1 ++ (entsS (c - x.1.length) x.2.1).1, (entsS (c - x.1.length) x.2.1).2) = R ∧ Byt x.2.1.1 ∧ x.2.1.1.length ≤ 1000000000 ∧ (∃ z t, x.2.2.1[1]? = some (rO z t x.2.1)) ∧ x.2.2.1[0]? = some (bO 0 .nils) ∧ x.2.2.1[2]? = some (bO n x.2.2.2) ∧ GW x.2.2.1 4 139 3 x.2.2.2 (x.1.map Ent.row)) ?_ ([], r, s, .nils) ⟨by simp, hR, hB, hl, hs1, hs0, hs2, gw_nil⟩
  clear hR hB hl hs1 hs0 hs2
  rintro ⟨es, r, s, u⟩ ⟨hec, hR, hB, hl, ⟨z, t, hs1⟩, hs0, hs2, hu⟩ ih
  simp only at hec hR hB hl hs1 hs0 hs2 hu ih
  have h3 : 3 ≤ s.length := (List.getElem?_eq_some_iff.1 hs2).1
  have hs1' : s[1]? = some (.row [SL z t (bI r.1), .bool r.2] 137 0 0) := hs1
  refine w_rep (by delta lp31_2; exact rfl) ?_
  have stop : (c - es.length = 0 ∨ r.2 = true) → R = (es, r) := fun h => by
    rw [← hR]
    rcases h with h | h
    · rw [h]; simp [entsS]
    · cases hm : c - es.length with
      | zero => simp [entsS]
      | succ m => simp [entsS, h]
  rcases Nat.lt_or_ge es.length c with h | h
  · cases hbad : r.2
    · rw [hbad] at hs1'
      obtain ⟨m, hm⟩ : ∃ m, c - es.length = m + 1 := ⟨c - es.length - 1, by omega⟩
      have hm' : m = c - (es.length + 1) := by omega
      rw [hm, entsS, if_neg (by rw [hbad]; simp)] at hR
      obtain ⟨s1, q1, u1⟩ := rnum_th hs1 hl hB 9
      obtain ⟨B1, l1⟩ := numS_in (most := 9) hB
      obtain ⟨⟨z1, t1, g1⟩, n1, f1⟩ := u1
      obtain ⟨s2, q2, u2⟩ := rnum_th g1 (by omega) B1 1073741824
      obtain ⟨B2, l2⟩ := numS_in (most := 1073741824) B1
      obtain ⟨⟨z2, t2, g2⟩, n2, f2⟩ := u2
      obtain ⟨s3, q3, u3⟩ := rnum_th g2 (by omega) B2 9
      obtain ⟨B3, l3⟩ := numS_in (most := 9) B2
      obtain ⟨⟨z3, t3, g3⟩, n3, f3⟩ := u3
      have c3 : ∀ k, k ≠ 1 → s3[k]? = s[k]? := fun k hk => (f3 k hk).trans ((f2 k hk).trans (f1 k hk))
      obtain ⟨E0, hE0⟩ : ∃ E0, E0 = Ob.row [.int .i64 (numS 9 r).1, .nils, .int .i64 (numS 1073741824 (numS 9 r).2).1, .int .i64 (numS 9 (numS 1073741824 (numS 9 r).2).2).1] 139 0 0 := ⟨_, rfl⟩
      have g3' : (s3 ++ [E0])[1]? = some (rO z3 t3 (numS 9 (numS 1073741824 (numS 9 r).2).2).2) := get_app_some g3
      obtain ⟨s4, q4, u4⟩ := rnum_th g3' (by omega) B3 4
      obtain ⟨B4, l4⟩ := numS_in (most := 4) B3
      obtain ⟨d0, d4⟩ := numS_le (most := 4) (by omega) (numS 9 (numS 1073741824 (numS 9 r).2).2).2
      obtain ⟨g4, n4, f4⟩ := u4
      have hent : entS r = (⟨(numS 9 r).1, (keysS (numS 4 (numS 9 (numS 1073741824 (numS 9 r).2).2).2).1.toNat (numS 4 (numS 9 (numS 1073741824 (numS 9 r).2).2).2).2).1, (numS 1073741824 (numS 9 r).2).1, (numS 9 (numS 1073741824 (numS 9 r).2).2).1, true, 0⟩, (keysS (numS 4 (numS 9 (numS 1073741824 (numS 9 r).2).2).2).1.toNat (numS 4 (numS 9 (numS 1073741824 (numS 9 r).2).2).2).2).2) := rfl
      rw [hent] at hR
      simp only at hR
      rw [hE0] at q4
      have k4 : s4[s3.length]? = some E0 := by rw [f4 _ (by omega), List.getElem?_append_right (Nat.le_refl _), Nat.sub_self]; rfl
      have c4 : ∀ k, k < s3.length → k ≠ 1 → s4[k]? = s3[k]? := fun k hk hk2 => by rw [f4 k hk2, List.getElem?_append_left hk]
      rw [hE0] at k4
      have n4' : s4.length = s3.length + 1 := by rw [n4]; simp
      clear hE0 g3' f4 n4
      generalize (numS 4 (numS 9 (numS 1073741824 (numS 9 r).2).2).2).2 = r4 at *
      generalize (numS 4 (numS 9 (numS 1073741824 (numS 9 r).2).2).2).1 = q at *
      generalize (numS 9 (numS 1073741824 (numS 9 r).2).2).1 = d at *
      generalize (numS 1073741824 (numS 9 r).2).1 = b at *
      generalize (numS 9 r).1 = a at *
      obtain ⟨qn, rfl⟩ := Int.eq_ofNat_of_zero_le d0
      simp only [Int.toNat_natCast] at hR
      simp only [go_sem, Nat.reduceEqDiff, reduceIte, Nat.reduceAdd, Nat.reduceMul, Nat.reduceLeDiff, lt_t h, hs1']
      refine wx_th (thm2 q1) ?_
      simp only [go_sem, Nat.reduceEqDiff, reduceIte, Nat.reduceAdd, Nat.reduceMul, Nat.reduceLeDiff]
      refine wx_th (thm2 q2) ?_
      simp only [go_sem, Nat.reduceEqDiff, reduceIte, Nat.reduceAdd, Nat.reduceMul, Nat.reduceLeDiff]
      refine wx_th (thm2 q3) ?_
      simp only [go_sem, Nat.reduceEqDiff, reduceIte, Nat.reduceAdd, Nat.reduceMul, Nat.reduceLeDiff]
      refine wx_th (thm2 q4) ?_
      simp only [go_sem, Nat.reduceEqDiff, reduceIte, Nat.reduceAdd, Nat.reduceMul, Nat.reduceLeDiff]
      refine rkeys_w (τ := s3) (R := keysS qn r4) (by omega) (by omega) (fun s5 w hB5 hl5 hs5 hsj hw hj5 hf5 k => ?_) r4 s4 rfl B4 (by omega) g4 k4 (by omega) c4
      have hkl := keysS_len qn r4
      generalize keysS qn r4 = KR at *
      obtain ⟨ks, r5⟩ := KR
      simp only at hR hB5 hl5 hs5 hw hkl
      obtain ⟨s6, a6, n6, f6⟩ := rowf_ent hw a b d
      have c6 : ∀ k, k < s.length → k ≠ 1 → s6[k]? = s[k]? := fun k hk hk2 => by rw [f6 k (by omega), hf5 k (by omega) hk2, c3 k hk2]
      have hu6 : GW s6 4 139 3 u (es.map Ent.row) := gw_kp hu fun k hk hk2 => c6 k hk2 (by omega)
      obtain ⟨u', s7, a7, g7, l7, -, f7⟩ := gw_app (bytes := 48) (y := .lst 1 [[.int .i64 a, SL true 0 (ks.map krow), .int .i64 b, .int .i64 d]]) hu6 (by omega) rfl (by omega) (erows_len _) (by simp) (by simp; omega)
      have h25 : s5[2]? = some (.row [.int .i64 n, u] 61 0 0) := by rw [hf5 2 (by omega) (by omega), c3 2 (by omega)]; exact hs2
      have h27 : s7[2]? = some (.row [.int .i64 n, u] 61 0 0) := by rw [f7 2 (by omega), c6 2 (by omega) (by omega)]; exact hs2
      have hwc := gw_cell g7
      have hwb := gw_cell hw
      simp only [go_sem, Nat.reduceEqDiff, reduceIte, Nat.reduceAdd, Nat.reduceMul, Nat.reduceLeDiff, h25, hsj, hwb, a6, a7, h27, cells1 hwc, hwc, inc64 (show es.length < 9223372036854775807 by omega)]
      have hrow : es.map Ent.row ++ [[V.int .i64 a, SL true 0 (ks.map krow), V.int .i64 b, V.int .i64 d]] = (es ++ [(⟨a, ks, b, d, true, 0⟩ : Ent)]).map Ent.row := by simp [Ent.row, Ent.sl]
      rw [hrow] at g7
      obtain ⟨z5, t5, hs5⟩ := hs5
      refine W_keep (ih (es ++ [⟨a, ks, b, d, true, 0⟩], r5, s7.set 2 (bO n u'), u') (by simp; omega) ⟨by simp; omega, ?_, hB5, hl5, ⟨z5, t5, ?_⟩, ?_, ?_, ?_⟩) (by first | rfl | (simp only [List.length_append, List.length_cons, List.length_nil]; done) | (simp only [List.length_append, List.length_cons, List.length_nil]; rfl))
      · simp only [List.length_append, List.length_cons, List.length_nil]
        rw [← hm', ← hR]
        simp
      · simp only
        rw [List.getElem?_set_ne (by omega), f7 1 (by omega), f6 1 (by omega)]
        exact hs5
      · simp only
        rw [List.getElem?_set_ne (by omega), f7 0 (by omega), c6 0 (by omega) (by omega)]
        exact hs0
      · simp only
        exact List.getElem?_set_self (by omega)
      · simp only
        exact gw_set g7 (by omega)
    · rw [hbad] at hs1'
      have hR' := stop (.inr hbad)
      simp only [go_sem, Nat.reduceEqDiff, reduceIte, Nat.reduceAdd, Nat.reduceMul, Nat.reduceLeDiff, lt_t h, hs1']
      rw [hR'] at hok
      exact hok s u ⟨z, t, hs1⟩ hs0 hs2 hu h3 es.length
  · have hR' := stop (.inl (by omega))
    simp only [go_sem, Nat.reduceEqDiff, reduceIte, Nat.reduceAdd, Nat.reduceMul, Nat.reduceLeDiff, lt_f h]
    rw [hR'] at hok
    exact hok s u ⟨z, t, hs1⟩ hs0 hs2 hu h3 es.length
end Go.Proofs.YtikkmcchhddfoaaGreatDoor.KM
