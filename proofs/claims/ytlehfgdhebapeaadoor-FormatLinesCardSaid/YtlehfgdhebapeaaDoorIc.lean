/- Walks: the walker of statements. -/
import Derived.Test.YtlehfgdhebapeaaDoorIb
import Derived.Test.YtlehfgdhebapeaaDoorIa
import Derived.Test.YtlehfgdhebapeaaDoorQs
import Derived.Test.YtlehfgdhebapeaaDoorQt
set_option linter.all false
namespace Go.Proofs.YtlehfgdhebapeaaDoor.KM
open Go
/-- a walker lies at w -/
structure WK (σ : St) (w : Nat) (p : Gp) (th : Int) (uA uS uT : V) (A S T : List (List V)) : Prop where
  row : σ[w]? = some (.row [SL p.dz p.dt (p.decls.map Dp.row), SL p.tz p.tt (p.thrs.map Tp.row), .int .i64 th, uA, uS, uT] 112 0 0)
  a : GS σ 11 42 uA A
  s : GS σ 1 9 uS S
  t : GS σ 1 9 uT T
  ad : ∀ j ∈ uA.refs, j ≠ w ∧ j ∉ uS.refs ∧ j ∉ uT.refs
  sd : ∀ j ∈ uS.refs, j ≠ w ∧ j ∉ uT.refs
  td : ∀ j ∈ uT.refs, j ≠ w
  cl : Cl σ
theorem slz_refs (z : Bool) (t : Nat) (l : List (List V)) : (SL z t l).refs = [] := by
  unfold SL
  split <;> rfl
theorem wk_refs (p : Gp) (th : Int) (uA uS uT : V) : refsL [SL p.dz p.dt (p.decls.map Dp.row), SL p.tz p.tt (p.thrs.map Tp.row), .int .i64 th, uA, uS, uT] = uA.refs ++ (uS.refs ++ uT.refs) := by
  simp only [refsL, slz_refs, V.refs, List.nil_append, List.append_nil]
theorem wk_lt {σ : St} {w : Nat} {p : Gp} {th : Int} {uA uS uT : V} {A S T : List (List V)} (h : WK σ w p th uA uS uT A S T) : w < σ.length := (List.getElem?_eq_some_iff.1 h.row).1
theorem wk_fp {σ : St} {w : Nat} {p : Gp} {th : Int} {uA uS uT : V} {A S T : List (List V)} (h : WK σ w p th uA uS uT A S T) : fp σ w = w :: (uA.refs ++ (uS.refs ++ uT.refs)) := by
  rw [fp_row h.row, wk_refs]
/-- objects behind -/
theorem wk_push {σ : St} {w : Nat} {p : Gp} {th : Int} {uA uS uT : V} {A S T : List (List V)} (h : WK σ w p th uA uS uT A S T) (l : St) (hc : Cl (σ ++ l)) : WK (σ ++ l) w p th uA uS uT A S T := by
  have k : ∀ i, i < σ.length → (σ ++ l)[i]? = σ[i]? := fun i hi => List.getElem?_append_left hi
  exact ⟨by rw [k w (wk_lt h)]; exact h.row, gs_any h.a fun i hi => k i (gs_refs h.a i hi), gs_any h.s fun i hi => k i (gs_refs h.s i hi), gs_any h.t fun i hi => k i (gs_refs h.t i hi), h.ad, h.sd, h.td, hc⟩
/-- the walker's lists turned -/
theorem wk_new {σ σ2 : St} {w : Nat} {p : Gp} {th th' : Int} {uA uS uT vA vS vT : V} {A S T A' S' T' : List (List V)} (h : WK σ w p th uA uS uT A S T) (hl : σ.length ≤ σ2.length) (hB : ∀ j, j < σ.length → j ∉ uA.refs → j ∉ uS.refs → j ∉ uT.refs → σ2[j]? = σ[j]?)
    (ga : GS σ2 11 42 vA A') (gs : GS σ2 1 9 vS S') (gt : GS σ2 1 9 vT T') (rA : ∀ j ∈ vA.refs, j ∈ uA.refs ∨ σ.length ≤ j) (rS : ∀ j ∈ vS.refs, j ∈ uS.refs ∨ σ.length ≤ j) (rT : ∀ j ∈ vT.refs, j ∈ uT.refs ∨ σ.length ≤ j)
    (d1 : ∀ j ∈ vA.refs, j ∉ vS.refs ∧ j ∉ vT.refs) (d2 : ∀ j ∈ vS.refs, j ∉ vT.refs) (hc : Cl σ2) :
    WK (σ2.set w (.row [SL p.dz p.dt (p.decls.map Dp.row), SL p.tz p.tt (p.thrs.map Tp.row), .int .i64 th', vA, vS, vT] 112 0 0)) w p th' vA vS vT A' S' T' ∧ FW w σ (σ2.set w (.row [SL p.dz p.dt (p.decls.map Dp.row), SL p.tz p.tt (p.thrs.map Tp.row), .int .i64 th', vA, vS, vT] 112 0 0)) := by
  have hw := wk_lt h
  have nA : ∀ j ∈ vA.refs, j ≠ w := fun j hj e => by
    rcases rA j hj with h2 | h2
    · exact (h.ad j h2).1 e
    · omega
  have nS : ∀ j ∈ vS.refs, j ≠ w := fun j hj e => by
    rcases rS j hj with h2 | h2
    · exact (h.sd j h2).1 e
    · omega
  have nT : ∀ j ∈ vT.refs, j ≠ w := fun j hj e => by
    rcases rT j hj with h2 | h2
    · exact h.td j h2 e
    · omega
  have ks : ∀ (X : Ob) (j : Nat), j ≠ w → (σ2.set w X)[j]? = σ2[j]? := fun X j hj => List.getElem?_set_ne (Ne.symm hj)
  refine ⟨⟨List.getElem?_set_self (by omega), gs_any ga fun i hi => ks _ i (nA i hi), gs_any gs fun i hi => ks _ i (nS i hi), gs_any gt fun i hi => ks _ i (nT i hi), fun j hj => ⟨nA j hj, d1 j hj⟩, fun j hj => ⟨nS j hj, d2 j hj⟩, nT, cl_set hc ?_⟩, ?_⟩
  · intro i hi
    simp only [Ob.refs, wk_refs, List.mem_append] at hi
    rcases hi with hi | hi | hi
    · exact gs_refs ga i hi
    · exact gs_refs gs i hi
    · exact gs_refs gt i hi
  · have hf := wk_fp h
    refine fw_own (τ := σ2) ⟨hl, fun j hj hn => ?_, fun j hj => ?_⟩ hw fun j hj => ?_
    · rw [hf] at hn
      simp only [List.mem_cons, List.mem_append, not_or] at hn
      exact hB j hj hn.2.1 hn.2.2.1 hn.2.2.2
    · rw [hf]
      have e2 : σ2[w]? = σ[w]? := hB w hw (fun e => (h.ad w e).1 rfl) (fun e => (h.sd w e).1 rfl) (fun e => h.td w e rfl)
      unfold fp at hj
      rw [e2, h.row] at hj
      simp only [Ob.refs, wk_refs] at hj
      exact .inl hj
    · rw [wk_refs] at hj
      rw [hf]
      simp only [List.mem_cons, List.mem_append] at hj ⊢
      rcases hj with hj | hj | hj
      · rcases rA j hj with h2 | h2
        · exact .inl (.inr (.inl h2))
        · exact .inr h2
      · rcases rS j hj with h2 | h2
        · exact .inl (.inr (.inr (.inl h2)))
        · exact .inr h2
      · rcases rT j hj with h2 | h2
        · exact .inl (.inr (.inr (.inr h2)))
        · exact .inr h2
theorem wk_w2 {σ σ2 : St} {w : Nat} {p : Gp} {th : Int} {uA uS uT : V} {A S T : List (List V)} (h : WK σ w p th uA uS uT A S T) (hB : ∀ j, j < σ.length → j ∉ uA.refs → j ∉ uS.refs → j ∉ uT.refs → σ2[j]? = σ[j]?) : σ2[w]? = some (.row [SL p.dz p.dt (p.decls.map Dp.row), SL p.tz p.tt (p.thrs.map Tp.row), .int .i64 th, uA, uS, uT] 112 0 0) := by
  rw [hB w (wk_lt h) (fun e => (h.ad w e).1 rfl) (fun e => (h.sd w e).1 rfl) (fun e => h.td w e rfl)]
  exact h.row
/-- a name more among the spawned -/
theorem wk_s {σ : St} {w : Nat} {p : Gp} {th : Int} {uA uS uT : V} {A S T : List (List V)} (h : WK σ w p th uA uS uT A S T) (nm : List UInt8) (hb : S.length ≤ 1000000000) : ∃ u' σ2, appV 16 (1, 9) uS (.lst 1 [[.str nm]]) σ = some (u', σ2) ∧ u'.cellB = true ∧ σ2[w]? = some (.row [SL p.dz p.dt (p.decls.map Dp.row), SL p.tz p.tt (p.thrs.map Tp.row), .int .i64 th, uA, uS, uT] 112 0 0) ∧
    WK (σ2.set w (.row [SL p.dz p.dt (p.decls.map Dp.row), SL p.tz p.tt (p.thrs.map Tp.row), .int .i64 th, uA, u', uT] 112 0 0)) w p th uA u' uT A (S ++ [[.str nm]]) T ∧ FW w σ (σ2.set w (.row [SL p.dz p.dt (p.decls.map Dp.row), SL p.tz p.tt (p.thrs.map Tp.row), .int .i64 th, uA, u', uT] 112 0 0)) := by
  obtain ⟨u', σ2, e1, g, hl, hk, hr, hc⟩ := gs_push (bytes := 16) (row := [.str nm]) h.s (by omega) rfl rfl (by omega)
  have hB : ∀ j, j < σ.length → j ∉ uA.refs → j ∉ uS.refs → j ∉ uT.refs → σ2[j]? = σ[j]? := fun j hj _ h2 _ => hk j hj h2
  have nn : ∀ j, j < σ.length → j ∉ uS.refs → j ∉ u'.refs := fun j hj h1 h2 => by
    rcases hr j h2 with h3 | h3
    · exact h1 h3
    · omega
  exact ⟨u', σ2, e1, gs_cell g, wk_w2 h hB, wk_new h hl hB (gs_any h.a fun i hi => hk i (gs_refs h.a i hi) (h.ad i hi).2.1) g (gs_any h.t fun i hi => hk i (gs_refs h.t i hi) fun e => (h.sd i e).2 hi) (fun j hj => .inl hj) hr (fun j hj => .inl hj)
    (fun j hj => ⟨nn j (gs_refs h.a j hj) (h.ad j hj).2.1, (h.ad j hj).2.2⟩) (fun j hj ht => nn j (gs_refs h.t j ht) (fun e => (h.sd j e).2 ht) hj) (hc h.cl)⟩
/-- a name more among the set -/
theorem wk_t {σ : St} {w : Nat} {p : Gp} {th : Int} {uA uS uT : V} {A S T : List (List V)} (h : WK σ w p th uA uS uT A S T) (nm : List UInt8) (hb : T.length ≤ 1000000000) : ∃ u' σ2, appV 16 (1, 9) uT (.lst 1 [[.str nm]]) σ = some (u', σ2) ∧ u'.cellB = true ∧ σ2[w]? = some (.row [SL p.dz p.dt (p.decls.map Dp.row), SL p.tz p.tt (p.thrs.map Tp.row), .int .i64 th, uA, uS, uT] 112 0 0) ∧
    WK (σ2.set w (.row [SL p.dz p.dt (p.decls.map Dp.row), SL p.tz p.tt (p.thrs.map Tp.row), .int .i64 th, uA, uS, u'] 112 0 0)) w p th uA uS u' A S (T ++ [[.str nm]]) ∧ FW w σ (σ2.set w (.row [SL p.dz p.dt (p.decls.map Dp.row), SL p.tz p.tt (p.thrs.map Tp.row), .int .i64 th, uA, uS, u'] 112 0 0)) := by
  obtain ⟨u', σ2, e1, g, hl, hk, hr, hc⟩ := gs_push (bytes := 16) (row := [.str nm]) h.t (by omega) rfl rfl (by omega)
  have hB : ∀ j, j < σ.length → j ∉ uA.refs → j ∉ uS.refs → j ∉ uT.refs → σ2[j]? = σ[j]? := fun j hj _ _ h2 => hk j hj h2
  have nn : ∀ j, j < σ.length → j ∉ uT.refs → j ∉ u'.refs := fun j hj h1 h2 => by
    rcases hr j h2 with h3 | h3
    · exact h1 h3
    · omega
  exact ⟨u', σ2, e1, gs_cell g, wk_w2 h hB, wk_new h hl hB (gs_any h.a fun i hi => hk i (gs_refs h.a i hi) (h.ad i hi).2.2) (gs_any h.s fun i hi => hk i (gs_refs h.s i hi) (h.sd i hi).2) g (fun j hj => .inl hj) (fun j hj => .inl hj) hr
    (fun j hj => ⟨(h.ad j hj).2.1, nn j (gs_refs h.a j hj) (h.ad j hj).2.2⟩) (fun j hj => nn j (gs_refs h.s j hj) (h.sd j hj).2) (hc h.cl)⟩
/-- a threaded function that changes nothing -/
theorem th_rel {R : V → Prop} {f p : Nat} {res : List AR} {body : AC} {vs : List V} {σ : St} (hT : TT f = some ⟨p, res, true, body, none⟩) (hl : vs.length = p) (h : W TT PT [.c body] (parEnv 0 vs) σ (Hd fun e' σ1 => ∃ v, resV e' σ1 res = some v ∧ (okRes v = true ∧ v.refs = []) ∧ (∃ l, σ1 = σ ++ l) ∧ R v)) : ∃ v, Th TT PT f vs σ v σ ∧ R v := by
  obtain ⟨e', _, hE, v, hr, ⟨h1, h2⟩, ⟨l, rfl⟩, h3⟩ := h
  exact ⟨v, Th_intro hT rfl rfl hl ⟨e', _, hE, hr, ⟨h1, by rw [h2]; rfl, fun i ob hi ho => .inl (by rw [List.getElem?_append_left hi] at ho; exact ho)⟩, by rw [List.take_left]⟩, h3⟩
/-- a threaded function that keeps all its objects -/
theorem th_keep {R : V → St → Prop} {f p : Nat} {res : List AR} {body : AC} {vs : List V} {σ : St} (hT : TT f = some ⟨p, res, true, body, none⟩) (hl : vs.length = p) (h : W TT PT [.c body] (parEnv 0 vs) σ (Hd fun e' σ1 => ∃ v, resV e' σ1 res = some v ∧ (okRes v = true ∧ v.refs = []) ∧ (σ.length ≤ σ1.length ∧ Cl σ1) ∧ R v σ1)) : ∃ v σ', Th TT PT f vs σ v σ' ∧ R v σ' := by
  obtain ⟨e', σ1, hE, v, hr, ⟨h1, h2⟩, ⟨h3, h4⟩, h5⟩ := h
  exact ⟨v, σ1, Th_all hT hl ⟨e', σ1, hE, hr, rfl⟩ h2 h1 h3 h4, h5⟩
theorem iad_4 {m j g off len i : Nat} {w : Bool} {k : IntKind} (h : i < len) : iadV m (.sl j g off len m w) (.int k (i : Int)) = some (.ptr j g (off + i * m)) := by
  simp only [iadV]
  rw [if_pos ⟨by omega, by omega, trivial⟩, Int.toNat_natCast]
set_option maxHeartbeats 1000000 in
theorem inside_th {σ : St} {w : Nat} {p : Gp} {th : Int} {uA uS uT : V} {X : List Sp} {S T : List (List V)} (h : WK σ w p th uA uS uT (X.map Sp.row) S T) (hX : X.length ≤ 1000000000) (a b : Int) (nm : List UInt8) : ∃ v, Th TT PT 108 [.ptr w 0 0, .int .i64 a, .int .i64 b, .str nm] σ v σ ∧ ∃ z, v = .bool z := by
  have hlen := gs_len h.a
  have n1 : (X.map Sp.row).length = X.length := List.length_map ..
  rw [n1] at hlen
  refine th_rel T108 rfl ?_
  simp only [go_sem]
  refine loop_w (α := Nat × St) (fun a => X.length - a.1) (fun x => [(0, .ptr w 0 0), (1, .int .i64 a), (2, .int .i64 b), (3, .str nm), (9, .int .i64 (x.1 : Int))]) (fun x => x.2) (fun x => x.1 ≤ X.length ∧ ∃ l, x.2 = σ ++ l) ?_ (0, σ) ⟨Nat.zero_le _, [], by simp⟩
  rintro ⟨i, _⟩ ⟨hi, l, rfl⟩ ih
  simp only at hi ih
  have hr := get_app_some (l := l) h.row
  refine w_rep (by delta lp108_0; exact rfl) ?_
  rcases Nat.lt_or_ge i X.length with h' | h'
  · obtain ⟨x, hx, -, -⟩ := at_some h'
    obtain ⟨j, g, cs, rfl, ho, hb, hrow⟩ := gs_row (i := i) (row := x.row) h.a (by rw [List.getElem?_map, hx]; rfl)
    rw [n1] at hr hlen
    have hj := get_app_some (l := l) ho
    have hld : lo2 (σ ++ l)[j]? g 11 false (i * 11) = some (.agg x.row) := by
      rw [hj]
      simp only [lo2]
      rw [if_pos ⟨trivial, by omega⟩, hrow]
      rfl
    have hxs := sset x
    have hrow11 := srow11 x
    rw [hrow11] at hld hxs
    cases qa : (x.op == a) <;> cases qb : (x.op == b) <;> cases qn : (nm == []) <;> cases qx : (x.nm == nm)
    all_goals
      simp only [go_sem, hr, hlen, lt_t h', iad_4 h', hld, qa, qb, qn, qx, inc64 (show i < 9223372036854775807 by omega)]
      first
        | exact ⟨_, rfl, ⟨rfl, rfl⟩, ⟨_, rfl⟩, _, rfl⟩
        | exact W_keep (ih (i + 1, _) (by simp; omega) ⟨h', _, rfl⟩) rfl
  · simp only [go_sem, hr, hlen, lt_f h']
    exact ⟨_, rfl, ⟨rfl, rfl⟩, ⟨_, rfl⟩, _, rfl⟩
end Go.Proofs.YtlehfgdhebapeaaDoor.KM
