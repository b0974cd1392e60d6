/- Walks: the maker of programs: its lists. -/
import Derived.Test.YtlehfgdhebapeaaDoorIh
import Derived.Test.YtlehfgdhebapeaaDoorHc
set_option linter.all false
namespace Go.Proofs.YtlehfgdhebapeaaDoor.KM
open Go
/-! settled objects -/
theorem shut_refs (o : Ob) : o.shut.refs = o.refs := by cases o <;> rfl
theorem fz_get : ∀ (js : List Nat) (σ : St) (j : Nat), j ∉ js → (σ.freeze js)[j]? = σ[j]?
  | [], _, _, _ => rfl
  | i :: js, σ, j, h => by
    simp only [List.mem_cons, not_or] at h
    simp only [St.freeze]
    split
    · rw [fz_get js _ j h.2, List.getElem?_set_ne (Ne.symm h.1)]
    · exact fz_get js _ j h.2
theorem fz_cl : ∀ (js : List Nat) (σ : St), Cl σ → Cl (σ.freeze js)
  | [], _, h => h
  | i :: js, σ, h => by
    simp only [St.freeze]
    split
    · rename_i ob ho
      refine fz_cl js _ (cl_set h ?_)
      rw [shut_refs]
      exact h ob (List.mem_of_getElem? ho)
    · exact fz_cl js _ h
/-- any function that keeps all its objects; its result may name them -/
theorem th_keepP {R : V → St → Prop} {f p : Nat} {res : List AR} {thr : Bool} {body : AC} {vs : List V} {σ : St} (hT : TT f = some ⟨p, res, thr, body, none⟩) (hl : vs.length = p) (h : W TT PT [.c body] (parEnv 0 vs) σ (Hd fun e' σ1 => ∃ v, resV e' σ1 res = some v ∧ (okRes v = true ∧ ∀ i ∈ v.refs, i < σ1.length) ∧ (σ.length ≤ σ1.length ∧ Cl σ1) ∧ R v σ1)) : ∃ v σ', ThP TT PT f vs σ v σ' ∧ R v σ' := by
  obtain ⟨e', σ1, hE, v, hr, ⟨h1, h2⟩, ⟨h3, h4⟩, h5⟩ := h
  exact ⟨v, σ1, ThP_all hT hl ⟨e', σ1, hE, hr, rfl⟩ h2 h1 h3 h4, h5⟩
/-- a threaded function that keeps all its objects; its result, a struct, is settled -/
theorem th_keepZ {R : V → St → Prop} {f p : Nat} {res : List AR} {body : AC} {vs : List V} {σ : St} (hT : TT f = some ⟨p, res, true, body, none⟩) (hl : vs.length = p) (h : W TT PT [.c body] (parEnv 0 vs) σ (Hd fun e' σ1 => ∃ cs cs', resV e' σ1 res = some (.agg cs) ∧ (cs.all V.cellB = true ∧ OCs σ1 cs cs' ∧ cs'.all V.rowB = true) ∧ (σ.length ≤ σ1.length ∧ Cl σ1) ∧ R (.agg cs') (σ1.freeze (refsL cs)))) : ∃ v σ', Th TT PT f vs σ v σ' ∧ R v σ' := by
  obtain ⟨e', σ1, hE, cs, cs', hr, ⟨h1, h2, h3⟩, ⟨h4, h5⟩, h6⟩ := h
  have hset : setC (.agg cs') = true := h3
  exact ⟨.agg cs', σ1.freeze (refsL cs), ThZ_all hT hl ⟨e', σ1, hE, .agg cs, refsL cs, hr, h1, ov_agg h2 _ (fun i hi => hi), rfl⟩ (setC_refs hset) (setC_ok hset) (by rw [freeze_len]; exact h4) (fz_cl _ _ h5), h6⟩
/-! statements that are made -/
def BK : Nat → Nat
  | 0 => 100
  | k + 1 => 100 + 4 * BK k
def SM (k : Nat) (x : Sp) : Prop := SB k x ∧ bulkRow x.row ≤ BK k
theorem zb_mono : ∀ {k k' : Nat}, k ≤ k' → ZB k ≤ ZB k'
  | 0, 0, _ => Nat.le_refl _
  | 0, k' + 1, _ => by simp [ZB]
  | k + 1, k' + 1, h => by
    have := zb_mono (k := k) (k' := k') (by omega)
    simp only [ZB]
    omega
theorem bk_mono : ∀ {k k' : Nat}, k ≤ k' → BK k ≤ BK k'
  | 0, 0, _ => Nat.le_refl _
  | 0, k' + 1, _ => by simp [BK]
  | k + 1, k' + 1, h => by
    have := bk_mono (k := k) (k' := k') (by omega)
    simp only [BK]
    omega
theorem sm_mono {k k' : Nat} {x : Sp} (hk : k ≤ k') (h : SM k x) : SM k' x := by
  obtain ⟨⟨h1, h2, h3⟩, h4⟩ := h
  have := zb_mono hk
  have := bk_mono hk
  exact ⟨⟨h1, by omega, fun d hd => Nat.le_trans (h3 d (by omega)) (Nat.mul_le_mul_left _ (by omega))⟩, by omega⟩
/-! the maker's locks -/
theorem mr_new {σ σ2 : St} {m b : Nat} {uH vH : V} {H H' : List (List UInt8)} (h : MKr σ m b uH H) (th left : Int) (se tx ao lp : Bool) (hl : σ.length ≤ σ2.length) (hB : ∀ j, j < σ.length → j ∉ uH.refs → σ2[j]? = σ[j]?) (g : GS σ2 1 9 vH (H'.map fun x => [V.str x])) (hr : ∀ j ∈ vH.refs, j ∈ uH.refs ∨ σ.length ≤ j) (hc : Cl σ2) :
    MKr (σ2.set m (.row [.ptr b 0 0, .int .i64 th, .int .i64 left, .bool se, .bool tx, .bool ao, .bool lp, vH] 80 0 0)) m b vH H' ∧ FW m σ (σ2.set m (.row [.ptr b 0 0, .int .i64 th, .int .i64 left, .bool se, .bool tx, .bool ao, .bool lp, vH] 80 0 0)) := by
  have hm := mr_lt h
  have hb := ts_lt h.tape
  have hf := mr_fp h
  have hrefs : refsL [.ptr b 0 0, .int .i64 th, .int .i64 left, .bool se, .bool tx, .bool ao, .bool lp, vH] = b :: vH.refs := by simp [refsL, V.refs]
  have nv : ∀ j ∈ vH.refs, j ≠ m ∧ j ≠ b := fun j hj => by
    rcases hr j hj with h2 | h2
    · exact h.hd j h2
    · omega
  have e2 : σ2[m]? = σ[m]? := hB m hm fun e => (h.hd m e).1 rfl
  have e3 : σ2[b]? = σ[b]? := hB b hb fun e => (h.hd b e).2 rfl
  refine ⟨⟨⟨th, left, se, tx, ao, lp, List.getElem?_set_self (by omega)⟩, ?_, h.ne, gs_any g fun i hi => List.getElem?_set_ne (Ne.symm (nv i hi).1), nv, cl_set hc fun i hi => ?_⟩, fw_own (τ := σ2) ⟨hl, fun j hj hn => ?_, fun j hj => ?_⟩ hm fun j hj => ?_⟩
  · obtain ⟨z, t, l, a, h1, h2⟩ := h.tape
    exact ⟨z, t, l, a, by rw [List.getElem?_set_ne h.ne, e3]; exact h1, h2⟩
  · simp only [Ob.refs, hrefs, List.mem_cons] at hi
    rcases hi with rfl | hi
    · omega
    · exact gs_refs g i hi
  · rw [hf] at hn
    simp only [List.mem_cons, not_or] at hn
    exact hB j hj hn.2.2
  · unfold fp at hj ⊢
    rw [e2] at hj
    exact .inl hj
  · rw [hrefs] at hj
    rw [hf]
    simp only [List.mem_cons] at hj ⊢
    rcases hj with rfl | hj
    · exact .inl (.inr (.inl rfl))
    · rcases hr j hj with h2 | h2
      · exact .inl (.inr (.inr h2))
      · exact .inr h2
/-- a list of the caller's own beside the maker -/
def OL (σ0 σ : St) (m : Nat) (u : V) (L : List Sp) : Prop := GS σ 11 42 u (L.map Sp.row) ∧ ∀ j ∈ u.refs, σ0.length ≤ j ∧ j ∉ fp σ m
theorem ol_fw {σ0 σ τ : St} {m : Nat} {u : V} {L : List Sp} (h : OL σ0 σ m u L) (hw : FW m σ τ) : OL σ0 τ m u L := by
  obtain ⟨h1, h2⟩ := h
  refine ⟨gs_any h1 fun i hi => hw.2.1 i (gs_refs h1 i hi) (h2 i hi).2, fun j hj => ⟨(h2 j hj).1, fun hm => ?_⟩⟩
  have := gs_refs h1 j hj
  rcases hw.2.2 j hm with h3 | h3
  · exact (h2 j hj).2 h3
  · omega
/-- one statement more -/
theorem ol_app {σ0 σ : St} {m b : Nat} {uH u : V} {H : List (List UInt8)} {L : List Sp} (h : OL σ0 σ m u L) (hk : MKr σ m b uH H) (h0 : FW m σ0 σ) (hm0 : m < σ0.length) (x : Sp) (hb : L.length ≤ 1000000) : ∃ u' σ', appV 176 (11, 42) u (.lst 1 [x.row]) σ = some (u', σ') ∧ OL σ0 σ' m u' (L ++ [x]) ∧ MKr σ' m b uH H ∧ FW m σ0 σ' := by
  obtain ⟨h1, h2⟩ := h
  have hl0 : (L.map Sp.row).length = L.length := List.length_map ..
  obtain ⟨u', σ', e1, g, hl, hB, hr, hc⟩ := gs_push (bytes := 176) (row := x.row) h1 (by omega) (srow_len x) (sset x) (by omega)
  have hf := mr_fp hk
  have nf : ∀ i ∈ fp σ m, i < σ.length ∧ i ∉ u.refs := fun i hi => by
    refine ⟨?_, fun e => (h2 i e).2 hi⟩
    rw [hf] at hi
    simp only [List.mem_cons] at hi
    rcases hi with rfl | rfl | hi
    · exact mr_lt hk
    · exact ts_lt hk.tape
    · exact gs_refs hk.h i hi
  have kp : ∀ i ∈ fp σ m, σ'[i]? = σ[i]? := fun i hi => hB i (nf i hi).1 (nf i hi).2
  have hm : σ'[m]? = σ[m]? := kp m (by rw [hf]; simp)
  have hb' : σ'[b]? = σ[b]? := kp b (by rw [hf]; simp)
  have efp : fp σ' m = fp σ m := by unfold fp; rw [hm]
  refine ⟨u', σ', e1, ⟨by rw [List.map_append]; exact g, fun j hj => ?_⟩, mr_any hk (hc hk.cl) hm ?_ (fun i hi => kp i (by rw [hf]; simp [hi])), fw_ref h0 hm0 hl (fun j hj => .inr (h2 j hj).1) (fun j hj hn => hB j hj hn) fun e => (h2 m e).2 (by rw [hf]; simp)⟩
  · rw [efp]
    rcases hr j hj with h3 | h3
    · exact h2 j h3
    · exact ⟨by have := h0.1; omega, fun e => by have := (nf j e).1; omega⟩
  · obtain ⟨z, t, l, a, h1, h2⟩ := hk.tape
    exact ⟨z, t, l, a, by rw [hb']; exact h1, h2⟩
/-- what maker.stmt gives -/
def MSt (k : Nat) : Prop := ∀ (σ : St) (m b : Nat) (uH : V) (H : List (List UInt8)), MKr σ m b uH H → H.length + k ≤ 100 → ∃ v σ', Th TT PT 56 [.ptr m 0 0, .int .i64 (k : Int)] σ v σ' ∧ (∃ x : Sp, v = .agg x.row ∧ SM k x) ∧ (∃ uH', MKr σ' m b uH' H) ∧ FW m σ σ'
def MSs (k : Nat) : Prop := ∀ (σ : St) (m b : Nat) (uH : V) (H : List (List UInt8)), MKr σ m b uH H → H.length + k ≤ 100 → ∀ n : Nat, n ≤ 1000000 → ∃ v σ', ThP TT PT 33 [.ptr m 0 0, .int .i64 (k : Int), .int .i64 (n : Int)] σ v σ' ∧ ∃ (L : List Sp) (uH' : V), OL σ σ' m v L ∧ (∀ x ∈ L, SM k x) ∧ L.length ≤ n ∧ MKr σ' m b uH' H ∧ FW m σ σ'
theorem mstmts_th {k : Nat} (hS : MSt k) : MSs k := by
  intro σ m b uH H h hH n hn
  have hm0 := mr_lt h
  refine th_keepP T33 rfl ?_
  simp only [go_sem]
  refine loop_w (α := Nat × St × V × V × List Sp) (fun a => n - a.1) (fun a => [(0, .ptr m 0 0), (1, .int .i64 (k : Int)), (2, .int .i64 (n : Int)), (7, a.2.2.1), (8, .int .i64 (a.1 : Int))]) (fun a => a.2.1) (fun a => a.1 ≤ n ∧ (OL σ a.2.1 m a.2.2.1 a.2.2.2.2 ∧ (∀ x ∈ a.2.2.2.2, SM k x) ∧ a.2.2.2.2.length = a.1) ∧ MKr a.2.1 m b a.2.2.2.1 H ∧ FW m σ a.2.1) ?_ (0, σ, .nils, uH, []) ⟨Nat.zero_le _, ⟨⟨gs_nil, by simp [V.refs]⟩, by simp, rfl⟩, h, fw_refl _ _⟩
  rintro ⟨i, s, u, vH, L⟩ ⟨hi, ⟨hO, hL, hlen⟩, hk, hw⟩ ih
  simp only at hi hO hL hlen hk hw ih
  obtain ⟨_, left, _, _, _, _, m1⟩ := hk.row
  have hcell := gs_cell hO.1
  have fin : ∃ v, some u = some v ∧ (okRes v = true ∧ ∀ i ∈ v.refs, i < s.length) ∧ (σ.length ≤ s.length ∧ Cl s) ∧ ∃ (L : List Sp) (uH' : V), OL σ s m v L ∧ (∀ x ∈ L, SM k x) ∧ L.length ≤ n ∧ MKr s m b uH' H ∧ FW m σ s := ⟨u, rfl, ⟨by cases u <;> simp [V.cellB] at hcell <;> rfl, gs_refs hO.1⟩, ⟨hw.1, hk.cl⟩, L, vH, hO, hL, by omega, hk, hw⟩
  refine w_rep (by delta lp33_0; exact rfl) ?_
  by_cases hc : i < n ∧ (i = 0 ∨ 0 < left)
  · have f1 : ((i : Int) < (n : Int)) = True := eq_true (by omega)
    obtain ⟨_, s2, q2, ⟨x, rfl, hx⟩, ⟨vH2, hk2⟩, w2⟩ := hS s m b vH H hk hH
    have hO2 := ol_fw hO w2
    obtain ⟨u', s3, ha, hO3, hk3, w3⟩ := ol_app hO2 hk2 (fw_trans hw w2) hm0 x (by omega)
    have hxs := sset x
    have hxr := srow11 x
    rw [hxr] at q2 hxs ha
    rcases (show i = 0 ∨ (i ≠ 0 ∧ 0 < left) by omega) with h0 | ⟨h0, hl⟩
    case' inl => have f2 : ((i : Int) == 0) = true := by simp [h0]
    case' inr => have f2 : ((i : Int) == 0) = false := by simp [h0]
    case' inr => have f3 : ((0 : Int) < left) = True := eq_true hl
    case' inl => simp only [go_sem, m1, f1, f2]
    case' inr => simp only [go_sem, m1, f1, f2, f3, gt_iff_lt]
    all_goals
      refine wx_th q2 ?_
      simp only [go_sem, ha, inc64 (show i < 9223372036854775807 by omega)]
      refine W_keep (ih (i + 1, s3, u', vH2, L ++ [x]) (by simp only; omega) ⟨by simp only; omega, ⟨hO3, fun y hy => ?_, by simp [hlen]⟩, hk3, w3⟩) rfl
      rcases List.mem_append.1 hy with hy | hy
      · exact hL y hy
      · rw [List.mem_singleton.1 hy]; exact hx
  · by_cases h1 : i < n
    · have f1 : ((i : Int) < (n : Int)) = True := eq_true (by omega)
      have f2 : ((i : Int) == 0) = false := by simp; omega
      have f3 : ((0 : Int) < left) = False := eq_false (by omega)
      simp only [go_sem, m1, f1, f2, f3, gt_iff_lt]
      exact fin
    · have f1 : ((i : Int) < (n : Int)) = False := eq_false (by omega)
      simp only [go_sem, m1, f1]
      exact fin
end Go.Proofs.YtlehfgdhebapeaaDoor.KM
