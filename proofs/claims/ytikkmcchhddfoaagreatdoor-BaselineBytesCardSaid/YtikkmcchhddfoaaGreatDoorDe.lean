/- Walks: the program's decodeBody, without its deferred call. -/
import Derived.Test.YtikkmcchhddfoaaGreatDoorDd
set_option linter.all false
namespace Go.Proofs.YtikkmcchhddfoaaGreatDoor.KM
open Go
theorem gw_kp {s s' : St} {m e lo : Nat} {w : V} {ys : List (List V)} (h : GW s m e lo w ys) (hk : ∀ j, lo ≤ j → j < s.length → s'[j]? = s[j]?) : GW s' m e lo w ys := by
  rcases h with hw | ⟨hn, j, g, rfl, ho, hlo⟩
  · exact .inl hw
  · exact .inr ⟨hn, j, g, rfl, (hk j hlo (List.getElem?_eq_some_iff.1 ho).1).trans ho, hlo⟩
theorem rowf_ent {σ : St} {lo : Nat} {w : V} {ks : List Key} (h : GW σ 3 52 lo w (ks.map krow)) (a b c : Int) :
    ∃ σ', rowfV 4 1 σ [.int .i64 a, w, .int .i64 b, .int .i64 c] = some (.lst 1 [[.int .i64 a, SL true 0 (ks.map krow), .int .i64 b, .int .i64 c]], σ') ∧ σ'.length = σ.length ∧ ∀ j, j < lo → σ'[j]? = σ[j]? := by
  have hoc := gw_oc h (by omega) (krows_len _) (krows_row _)
  have hr : refsL [V.int .i64 a, w, V.int .i64 b, V.int .i64 c] = w.refs := by simp [refsL, V.refs]
  have hs := hoc (clo σ 9 w.refs.eraseDups) (fun i hi => cloL_sub σ 9 _ i (List.mem_eraseDups.2 hi)) 7
  have hi : ∀ n : Int, settle σ (clo σ 9 w.refs.eraseDups) 9 (.int .i64 n) = some (.int .i64 n) := fun n => settle_row rfl
  unfold rowfV
  rw [hr]
  simp only [List.mapM_cons, List.mapM_nil, hi, hs]
  refine ⟨_, rfl, ?_⟩
  rcases h with ⟨rfl, -⟩ | ⟨hn, i, g, rfl, ho, hlo⟩
  · exact ⟨rfl, fun _ _ => rfl⟩
  · have : clo σ 9 (V.refs (.sl i g 0 (ks.map krow).length 3 true)).eraseDups = [i] := by
      have e1 : (V.refs (.sl i g 0 (ks.map krow).length 3 true)).eraseDups = [i] := by simp [V.refs, List.eraseDups_cons]
      rw [e1]
      have hx : refsL (ks.map krow).flatten = [] := refsL_row (rows_all (krows_row _))
      simp [clo, ho, Ob.refs, hx]
    rw [this]
    exact ⟨freeze_one_len σ i, fun j hj => freeze_one σ i j (by omega)⟩
def bO (n : Int) (u : V) : Ob := .row [.int .i64 n, u] 61 0 0
def okO (z : Bool) : Ob := .row [.bool z] 4 0 0
/-- what decodeBody leaves -/
def DQ (l : List Int) : Out → Prop
  | .ok e σ => ∃ n es u, decA l = some (n, es) ∧ e.get 2 = .ptr 0 0 0 ∧ e.get 3 = .ptr 1 0 0 ∧ σ[0]? = some (bO n u) ∧ σ[1]? = some (okO true) ∧ GW σ 4 139 3 u (es.map Ent.row)
  | .pan e σ => decA l = none ∧ e.get 2 = .ptr 0 0 0 ∧ e.get 3 = .ptr 1 0 0 ∧ (∃ n u, σ[0]? = some (bO n u)) ∧ ∃ z, σ[1]? = some (okO z)
def D0.rest : AC := match D0.af69.body with | .seq _ c => c | c => c
def joinK (ks : List Key) : Option (List Key × List Int) → Option (List Key × List Int)
  | some (k2, r) => some (ks ++ k2, r)
  | none => none
def joinE (n : Int) (es : List Ent) : Option (List Ent × List Int) → Option (Int × List Ent)
  | some (e2, _) => some (n, es ++ e2)
  | none => none
theorem get_set2 {s : St} {X : Ob} (h : 2 < s.length) : (s.set 2 X)[2]? = some X := List.getElem?_set_self h
/-- the keys of an entry -/
theorem keys_x {K : List It} {Q : Out → Prop} {c d : Nat} {i : Int} {j0 : Nat} {a b e : Int} {τ : St} {T4 : List Int} (h3 : 3 ≤ j0) (hd : d ≤ 4) {R : Option (List Key × List Int)}
    (hpan : R = none → ∀ e σ, e.get 2 = .ptr 0 0 0 → e.get 3 = .ptr 1 0 0 → σ[0]? = τ[0]? → σ[1]? = τ[1]? → Q (.pan e σ))
    (hok : ∀ ks r s w z t, R = some (ks, r) → Byt r → r.length ≤ 1000000000 → s[2]? = some (rdO z t r) → s[j0]? = some (.row [.int .i64 a, w, .int .i64 b, .int .i64 e] 139 0 0) → GW s 3 52 (j0 + 1) w (ks.map krow) → j0 < s.length → (∀ k, k < j0 → k ≠ 2 → s[k]? = τ[k]?) → ks.length = d →
      XW D0.T0 D0.P0 D0.pan K [(2, .ptr 0 0 0), (3, .ptr 1 0 0), (4, .ptr 2 0 0), (5, .ptr j0 0 0), (18, .int .i64 (c : Int)), (19, .int .i64 i), (25, .int .i64 (d : Int)), (26, .int .i64 (d : Int))] s Q)
    (ks : List Key) (r : List Int) (s : St) (w : V) (z : Bool) (t : Nat) (hjd : ks.length ≤ d) (hR : joinK ks (keysR (d - ks.length) r) = R) (hB : Byt r) (hl : r.length ≤ 1000000000) (hs2 : s[2]? = some (rdO z t r)) (hsj : s[j0]? = some (.row [.int .i64 a, w, .int .i64 b, .int .i64 e] 139 0 0)) (hw : GW s 3 52 (j0 + 1) w (ks.map krow)) (hj0 : j0 < s.length) (hf : ∀ k, k < j0 → k ≠ 2 → s[k]? = τ[k]?) :
    XW D0.T0 D0.P0 D0.pan (.l [2, 3, 4, 5, 18, 19, 25, 26] D0.lp69_0 :: .b 2 :: K) [(2, .ptr 0 0 0), (3, .ptr 1 0 0), (4, .ptr 2 0 0), (5, .ptr j0 0 0), (18, .int .i64 (c : Int)), (19, .int .i64 i), (25, .int .i64 (d : Int)), (26, .int .i64 (ks.length : Int))] s Q := by
  refine loop_x (α := List Key × List Int × St × V × Bool × Nat) (fun a => d - a.1.length) (fun x => [(2, .ptr 0 0 0), (3, .ptr 1 0 0), (4, .ptr 2 0 0), (5, .ptr j0 0 0), (18, .int .i64 (c : Int)), (19, .int .i64 i), (25, .int .i64 (d : Int)), (26, .int .i64 (x.1.length : Int))]) (fun x => x.2.2.1)
    (fun x => x.1.length ≤ d ∧ joinK x.1 (keysR (d - x.1.length) x.2.1) = R ∧ Byt x.2.1 ∧ x.2.1.length ≤ 1000000000 ∧ x.2.2.1[2]? = some (rdO x.2.2.2.2.1 x.2.2.2.2.2 x.2.1) ∧ x.2.2.1[j0]? = some (.row [.int .i64 a, x.2.2.2.1, .int .i64 b, .int .i64 e] 139 0 0) ∧ GW x.2.2.1 3 52 (j0 + 1) x.2.2.2.1 (x.1.map krow) ∧ j0 < x.2.2.1.length ∧ ∀ k, k < j0 → k ≠ 2 → x.2.2.1[k]? = τ[k]?) ?_ (ks, r, s, w, z, t) ⟨hjd, hR, hB, hl, hs2, hsj, hw, hj0, hf⟩
  clear hjd hR hB hl hs2 hsj hw hj0 hf
  rintro ⟨ks, r, s, w, z, t⟩ ⟨hjd, hR, hB, hl, hs2, hsj, hw, hj0, hf⟩ ih
  simp only at hjd hR hB hl hs2 hsj hw hj0 hf ih
  refine x_rep (by delta D0.lp69_0; exact rfl) ?_
  have pan : ∀ (σ : St) (e : Env), keysR (d - ks.length) r = none → (∀ k, k < 2 → σ[k]? = s[k]?) → e.get 2 = .ptr 0 0 0 → e.get 3 = .ptr 1 0 0 → Q (.pan e σ) := fun σ e hn hσ h2 h3' =>
    hpan (by rw [← hR, hn]; rfl) e σ h2 h3' ((hσ 0 (by omega)).trans (hf 0 (by omega) (by omega))) ((hσ 1 (by omega)).trans (hf 1 (by omega) (by omega)))
  rcases Nat.lt_or_ge ks.length d with h | h
  · obtain ⟨m, hm⟩ : ∃ m, d - ks.length = m + 1 := ⟨d - ks.length - 1, by omega⟩
    have hm' : m = d - (ks.length + 1) := by omega
    rw [hm, keysR, keyR] at hR
    rw [hm] at pan
    rw [keysR, keyR] at pan
    cases hn : numR 59 r with
    | none =>
      rw [hn] at pan
      simp only [go_sem, Nat.reduceEqDiff, reduceIte, Nat.reduceAdd, Nat.reduceMul, Nat.reduceLeDiff, lt_t h]
      exact xx_pan (num_none hs2 hl hB hn) (pan _ _ rfl (fun _ _ => rfl) rfl rfl)
    | some p =>
      obtain ⟨n, r1⟩ := p
      rw [hn] at pan hR
      simp only at pan hR
      obtain ⟨n0, -, hB1, l1, z1, t1, h1⟩ := num_some hs2 hl hB hn
      obtain ⟨s1, hs1⟩ : ∃ s1, s1 = s.set 2 (rdO z1 t1 r1) := ⟨_, rfl⟩
      rw [← hs1] at h1
      have e1 : s1.length = s.length := by rw [hs1, List.length_set]
      have g1 : s1[2]? = some (rdO z1 t1 r1) := by rw [hs1]; exact get_set2 (by omega)
      have f1 : ∀ k, k ≠ 2 → s1[k]? = s[k]? := fun k hk => by rw [hs1, List.getElem?_set_ne (Ne.symm hk)]
      obtain ⟨K0, hK0⟩ : ∃ K0, K0 = Ob.row [.str [], .str [], .int .i64 n] 52 0 0 := ⟨_, rfl⟩
      have g2 : (s1 ++ [K0])[2]? = some (rdO z1 t1 r1) := get_app_some g1
      cases ht : textR 12 r1 with
      | none =>
        rw [ht] at pan
        obtain ⟨σ1, hp, hσ⟩ := txt_none g2 (by omega) hB1 ht
        rw [hK0] at hp hσ
        simp only [go_sem, Nat.reduceEqDiff, reduceIte, Nat.reduceAdd, Nat.reduceMul, Nat.reduceLeDiff, lt_t h]
        refine xx_call (.thr h1) ?_
        simp only [go_sem, Nat.reduceEqDiff, reduceIte, Nat.reduceAdd, Nat.reduceMul, Nat.reduceLeDiff]
        exact xx_pan hp (pan _ _ rfl (fun k hk => by rw [hσ k (by omega), List.getElem?_append_left (by omega), f1 k (by omega)]) rfl rfl)
      | some p =>
        obtain ⟨ta, r2⟩ := p
        rw [ht] at pan hR
        simp only at pan hR
        obtain ⟨hB2, l2, z2, t2, h2⟩ := txt_some g2 (by omega) hB1 ht
        obtain ⟨s2, hs2'⟩ : ∃ s2, s2 = (s1 ++ [K0]).set 2 (rdO z2 t2 r2) := ⟨_, rfl⟩
        rw [← hs2'] at h2
        have e2 : s2.length = s1.length + 1 := by rw [hs2', List.length_set]; simp
        have g3 : s2[2]? = some (rdO z2 t2 r2) := by rw [hs2']; exact get_set2 (by simp; omega)
        have k2 : s2[s1.length]? = some K0 := by rw [hs2', List.getElem?_set_ne (by omega), List.getElem?_append_right (Nat.le_refl _), Nat.sub_self]; rfl
        have f2 : ∀ k, k ≠ 2 → k < s1.length → s2[k]? = s1[k]? := fun k hk hk2 => by rw [hs2', List.getElem?_set_ne (Ne.symm hk), List.getElem?_append_left hk2]
        rw [hK0] at h2 k2
        obtain ⟨K1, hK1⟩ : ∃ K1, K1 = Ob.row [.str ta, .str [], .int .i64 n] 52 0 0 := ⟨_, rfl⟩
        obtain ⟨s3, hs3⟩ : ∃ s3, s3 = s2.set s1.length K1 := ⟨_, rfl⟩
        have g4 : s3[2]? = some (rdO z2 t2 r2) := by rw [hs3, List.getElem?_set_ne (by omega)]; exact g3
        have k3 : s3[s1.length]? = some K1 := by rw [hs3]; exact List.getElem?_set_self (by omega)
        have e3 : s3.length = s1.length + 1 := by rw [hs3, List.length_set, e2]
        have f3 : ∀ k, k ≠ 2 → k < s1.length → s3[k]? = s1[k]? := fun k hk hk2 => by rw [hs3, List.getElem?_set_ne (by omega), f2 k hk hk2]
        cases hu : textR 1000 r2 with
        | none =>
          rw [hu] at pan
          obtain ⟨σ1, hp, hσ⟩ := txt_none g4 (by omega) hB2 hu
          rw [hs3, hK1] at hp
          simp only [go_sem, Nat.reduceEqDiff, reduceIte, Nat.reduceAdd, Nat.reduceMul, Nat.reduceLeDiff, lt_t h]
          refine xx_call (.thr h1) ?_
          simp only [go_sem, Nat.reduceEqDiff, reduceIte, Nat.reduceAdd, Nat.reduceMul, Nat.reduceLeDiff]
          refine xx_call (.thr h2) ?_
          simp only [go_sem, Nat.reduceEqDiff, reduceIte, Nat.reduceAdd, Nat.reduceMul, Nat.reduceLeDiff, k2]
          exact xx_pan hp (pan _ _ rfl (fun k hk => by rw [hσ k (by omega), f3 k (by omega) (by omega), f1 k (by omega)]) rfl rfl)
        | some p =>
          obtain ⟨tb, r3⟩ := p
          rw [hu] at pan hR
          simp only at hR
          obtain ⟨hB3, l3, z3, t3, h3'⟩ := txt_some g4 (by omega) hB2 hu
          obtain ⟨s4, hs4⟩ : ∃ s4, s4 = s3.set 2 (rdO z3 t3 r3) := ⟨_, rfl⟩
          rw [← hs4] at h3'
          have k4 : s4[s1.length]? = some K1 := by rw [hs4, List.getElem?_set_ne (by omega)]; exact k3
          have e4 : s4.length = s1.length + 1 := by rw [hs4, List.length_set, e3]
          have g5 : s4[2]? = some (rdO z3 t3 r3) := by rw [hs4]; exact get_set2 (by omega)
          have f4 : ∀ k, k ≠ 2 → k < s1.length → s4[k]? = s1[k]? := fun k hk hk2 => by rw [hs4, List.getElem?_set_ne (Ne.symm hk), f3 k hk hk2]
          rw [hs3, hK1] at h3'
          rw [hK1] at k4
          obtain ⟨K2, hK2⟩ : ∃ K2, K2 = Ob.row [.str ta, .str tb, .int .i64 n] 52 0 0 := ⟨_, rfl⟩
          obtain ⟨s5, hs5⟩ : ∃ s5, s5 = s4.set s1.length K2 := ⟨_, rfl⟩
          have k5 : s5[s1.length]? = some K2 := by rw [hs5]; exact List.getElem?_set_self (by omega)
          have e5 : s5.length = s1.length + 1 := by rw [hs5, List.length_set, e4]
          have g6 : s5[2]? = some (rdO z3 t3 r3) := by rw [hs5, List.getElem?_set_ne (by omega)]; exact g5
          have f5 : ∀ k, k ≠ 2 → k < s.length → s5[k]? = s[k]? := fun k hk hk2 => by rw [hs5, List.getElem?_set_ne (by omega), f4 k hk (by omega), f1 k hk]
          have hw5 : GW s5 3 52 (j0 + 1) w (ks.map krow) := gw_kp hw fun k hk hk2 => f5 k (by omega) hk2
          have hj5 := (f5 j0 (by omega) hj0).trans hsj
          obtain ⟨w', s6, a6, w6, l6, -, f6⟩ := gw_app (bytes := 40) (y := .lst 1 [[.str ta, .str tb, .int .i64 n]]) hw5 (by omega) rfl (by omega) (krows_len _) (by simp) (by simp; omega)
          have hj6 := (f6 j0 (by omega)).trans hj5
          have hwc := gw_cell w6
          rw [hs5, hK2] at hj5 a6 k5
          simp only [go_sem, Nat.reduceEqDiff, reduceIte, Nat.reduceAdd, Nat.reduceMul, Nat.reduceLeDiff, lt_t h]
          refine xx_call (.thr h1) ?_
          simp only [go_sem, Nat.reduceEqDiff, reduceIte, Nat.reduceAdd, Nat.reduceMul, Nat.reduceLeDiff]
          refine xx_call (.thr h2) ?_
          simp only [go_sem, Nat.reduceEqDiff, reduceIte, Nat.reduceAdd, Nat.reduceMul, Nat.reduceLeDiff, k2]
          refine xx_call (.thr h3') ?_
          simp only [go_sem, Nat.reduceEqDiff, reduceIte, Nat.reduceAdd, Nat.reduceMul, Nat.reduceLeDiff, k4, hj5, k5, a6, hj6, cells1 hwc, hwc, inc64 (show ks.length < 9223372036854775807 by omega)]
          have hkm : (ks.map krow) ++ [[V.str ta, V.str tb, V.int .i64 n]] = (ks ++ [(ta, tb, n)]).map krow := by simp [krow]
          rw [hkm] at w6
          refine X_keep (ih (ks ++ [(ta, tb, n)], r3, s6.set j0 (.row [.int .i64 a, w', .int .i64 b, .int .i64 e] 139 0 0), w', z3, t3) (by simp; omega) ⟨by simp; omega, ?_, hB3, by simp only; omega, ?_, ?_, ?_, ?_, ?_⟩) (by first | rfl | (simp only [List.length_append, List.length_cons, List.length_nil]; done) | (simp only [List.length_append, List.length_cons, List.length_nil]; rfl))
          · simp only [List.length_append, List.length_cons, List.length_nil]
            rw [← hm', ← hR]
            cases keysR m r3 with
            | none => rfl
            | some q => simp [joinK]
          · simp only
            rw [List.getElem?_set_ne (by omega), f6 2 (by omega)]
            exact g6
          · simp only
            exact List.getElem?_set_self (by omega)
          · simp only
            exact gw_set w6 (by omega)
          · simp only [List.length_set]; omega
          · simp only
            intro k hk hk2
            rw [List.getElem?_set_ne (by omega), f6 k (by omega), f5 k hk2 (by omega)]
            exact hf k hk hk2
  · have hkd : ks.length = d := by omega
    rw [hkd, Nat.sub_self, keysR] at hR
    have hR' : R = some (ks, r) := by rw [← hR]; simp [joinK]
    simp only [go_sem, Nat.reduceEqDiff, reduceIte, Nat.reduceAdd, Nat.reduceMul, Nat.reduceLeDiff, lt_f h]
    rw [hkd]
    exact hok ks r s w z t hR' hB hl hs2 hsj hw hj0 hf hkd
end Go.Proofs.YtikkmcchhddfoaaGreatDoor.KM
