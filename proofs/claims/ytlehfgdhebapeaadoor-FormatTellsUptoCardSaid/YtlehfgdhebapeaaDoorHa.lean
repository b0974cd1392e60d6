/- Walks: the tape of numbers. -/
import Derived.Test.YtlehfgdhebapeaaDoorGh
import Derived.Test.YtlehfgdhebapeaaDoorQt
set_option linter.all false
namespace Go.Proofs.YtlehfgdhebapeaaDoor.KM
open Go
/-- a tape lies at b -/
def TS (s : St) (b : Nat) : Prop := ∃ (z : Bool) (t : Nat) (l : List UInt8) (at' : Nat), s[b]? = some (.row [SL z t (byteRows l), .int .i64 (at' : Int)] 54 0 0) ∧ at' ≤ l.length ∧ l.length ≤ 9223372036854775807
/-- only the tape turned -/
def TW (s σ : St) (b : Nat) : Prop := s.length ≤ σ.length ∧ (∀ i, i < s.length → i ≠ b → σ[i]? = s[i]?) ∧ TS σ b ∧ b < s.length
theorem ts_lt {s : St} {b : Nat} (h : TS s b) : b < s.length := by
  obtain ⟨z, t, l, a, h, -⟩ := h
  exact (List.getElem?_eq_some_iff.1 h).1
theorem tw_refl {s : St} {b : Nat} (h : TS s b) : TW s s b := ⟨Nat.le_refl _, fun _ _ _ => rfl, h, ts_lt h⟩
theorem ts_push {s l : St} {b : Nat} (h : TS s b) : TS (s ++ l) b := by
  obtain ⟨z, t, r, a, h, h'⟩ := h
  exact ⟨z, t, r, a, get_app_some h, h'⟩
theorem tsrow_refs {z : Bool} {t : Nat} {l : List UInt8} {a : Int} {T : Nat} : (Ob.row [SL z t (byteRows l), .int .i64 a] T 0 0).refs = [] := by
  unfold SL
  split <;> rfl
/-- a function on the caller's objects -/
theorem thp_go {T : Nat → Option AF} {pr : Nat → Option (List V → Option V)} {f p : Nat} {res : List AR} {thr : Bool} {body : AC} {vs : List V} {σ : St} {R : V → St → Prop} (hT : T f = some ⟨p, res, thr, body, none⟩) (hl : vs.length = p)
    (h : W T pr [.c body] (parEnv 0 vs) σ (Hd fun e' σ1 => ∃ v, resV e' σ1 res = some v ∧ (okRes v = true ∧ v.refs = []) ∧ (∀ i ob, i < σ.length → σ1[i]? = some ob → σ[i]? = some ob ∨ within σ.length [] ob.refs = true) ∧ R v (σ1.take σ.length))) : ∃ v σ', ThP T pr f vs σ v σ' ∧ R v σ' := by
  obtain ⟨e', σ1, hE, v, hr, ⟨h1, h2⟩, h3, h4⟩ := h
  exact ⟨v, _, ⟨_, hT, rfl, .fn hT rfl hl hE hr h1 (by rw [h2]; rfl) h3⟩, h4⟩
theorem tw_left {s σ : St} {b : Nat} (h : TW s σ b) : ∀ i ob, i < s.length → σ[i]? = some ob → s[i]? = some ob ∨ within s.length [] ob.refs = true := by
  intro i ob hi ho
  by_cases hb : i = b
  · subst hb
    obtain ⟨z, t, l, a, h1, -⟩ := h.2.2.1
    rw [ho] at h1
    cases h1
    exact .inr (by rw [tsrow_refs]; rfl)
  · rw [h.2.1 i hi hb] at ho
    exact .inl ho
def nxR (l : List UInt8) (a n : Nat) : Nat := if a < l.length ∧ 1 ≤ n then ((l[a]?).getD 0).toNat % n else 0
def nxA (l : List UInt8) (a n : Nat) : Nat := if a < l.length ∧ 1 ≤ n then a + 1 else a
theorem st_same {s : St} {b : Nat} {x : Ob} (h : s[b]? = some x) : s.set b x = s := by
  refine List.ext_getElem? fun i => ?_
  by_cases hi : b = i
  · subst hi
    rw [List.getElem?_set_self (List.getElem?_eq_some_iff.1 h).1, h]
  · rw [List.getElem?_set_ne hi]
theorem next_ex {s : St} {b t : Nat} {z : Bool} {l : List UInt8} {at' : Nat} (hs : s[b]? = some (.row [SL z t (byteRows l), .int .i64 (at' : Int)] 54 0 0)) (h1 : at' ≤ l.length) (h2 : l.length ≤ 9223372036854775807) (n : Nat) (hn : n ≤ 1000000000) :
    ThP TT PT 19 [.ptr b 0 0, .int .i64 (n : Int)] s (.int .i64 (nxR l at' n : Int)) (s.set b (.row [SL z t (byteRows l), .int .i64 (nxA l at' n : Int)] 54 0 0)) := by
  have hw : TW s s b := tw_refl ⟨z, t, l, at', hs, h1, h2⟩
  have hbl : (byteRows l).length = l.length := by simp [byteRows]
  suffices hh : ∃ v s', ThP TT PT 19 [.ptr b 0 0, .int .i64 (n : Int)] s v s' ∧ v = .int .i64 (nxR l at' n : Int) ∧ s' = (s.set b (.row [SL z t (byteRows l), .int .i64 (nxA l at' n : Int)] 54 0 0)) by
    obtain ⟨v, s', h3, rfl, rfl⟩ := hh
    exact h3
  refine thp_go T19 rfl ?_
  have fin : ¬ (at' < l.length ∧ 1 ≤ n) → V.int .i64 0 = .int .i64 (nxR l at' n : Int) ∧ s.take s.length = (s.set b (.row [SL z t (byteRows l), .int .i64 (nxA l at' n : Int)] 54 0 0)) := fun h => by
    unfold nxR nxA
    rw [if_neg h, if_neg h, st_same hs, List.take_length]
    exact ⟨rfl, rfl⟩
  by_cases hg : l.length ≤ at'
  · have f1 : ((l.length : Int) ≤ (at' : Int)) = True := eq_true (by omega)
    simp only [go_sem]
    refine w_drw (by kernel_rfl) ?_
    simp only [go_sem, hs, hbl, f1]
    exact ⟨_, rfl, ⟨rfl, rfl⟩, fun i ob _ h => .inl h, fin (by omega)⟩
  · have f1 : ((l.length : Int) ≤ (at' : Int)) = False := eq_false (by omega)
    by_cases hn1 : n < 1
    · have f2 : ((n : Int) < 1) = True := eq_true (by omega)
      simp only [go_sem]
      refine w_drw (by kernel_rfl) ?_
      simp only [go_sem, hs, hbl, f1, f2]
      exact ⟨_, rfl, ⟨rfl, rfl⟩, fun i ob _ h => .inl h, fin (by omega)⟩
    · have f2 : ((n : Int) < 1) = False := eq_false (by omega)
      simp only [go_sem]
      refine w_drw (by kernel_rfl) ?_
      simp only [go_sem, hs, hbl, f1, f2]
      have hx : ∃ c : UInt8, l[at']? = some c := ⟨_, List.getElem?_eq_getElem (by omega)⟩
      obtain ⟨c, hc⟩ := hx
      have hrow : (byteRows l)[at']? = some [.int .u8 (c.toNat : Int)] := by unfold byteRows; rw [List.getElem?_map, hc]; rfl
      have e1 : IntKind.i64.wrap ((at' : Int) + 1) = ((at' + 1 : Nat) : Int) := by rw [wrap64 (by omega)]; rfl
      have hbs := ts_lt hw.2.2.1
      have k1 : (s.set b (.row [SL z t (byteRows l), .int .i64 ((at' + 1 : Nat) : Int)] 54 0 0))[b]? = some (.row [SL z t (byteRows l), .int .i64 ((at' + 1 : Nat) : Int)] 54 0 0) := by rw [List.getElem?_set_self hbs]
      have e2 : IntKind.i64.wrap (((at' + 1 : Nat) : Int) - 1) = (at' : Int) := by rw [wrap64 (by omega)]; omega
      have f3 : ((n : Int) = 0) = False := eq_false (by omega)
      have hcl : c.toNat < 256 := c.toNat_lt
      have e3 : IntKind.i64.wrap (c.toNat : Int) = (c.toNat : Int) := wrap64 (by omega)
      have e4 : ((c.toNat : Int).tmod (n : Int)) = ((c.toNat % n : Nat) : Int) := by rw [Int.tmod_eq_emod_of_nonneg (by omega)]; rfl
      simp only [go_sem, e1]
      refine w_drw (by kernel_rfl) ?_
      simp only [go_sem, k1, e2, hbl, hrow, f3, not_false_eq_true, e3, e4]
      have hset : TW s (s.set b (.row [SL z t (byteRows l), .int .i64 ((at' + 1 : Nat) : Int)] 54 0 0)) b :=
        ⟨by simp, fun i hi hb => by rw [List.getElem?_set_ne (Ne.symm hb)], ⟨z, t, l, at' + 1, k1, by omega, h2⟩, hbs⟩
      refine ⟨_, rfl, ⟨rfl, rfl⟩, tw_left hset, ?_, ?_⟩
      · unfold nxR
        rw [if_pos (by omega), hc]
        rfl
      · unfold nxA
        rw [if_pos (by omega), List.take_of_length_le (by simp)]
theorem nx_bound (l : List UInt8) (a n : Nat) : (nxR l a n < n ∨ nxR l a n = 0) ∧ nxR l a n ≤ 255 := by
  unfold nxR
  split
  · rename_i h
    have hm := Nat.mod_lt ((l[a]?).getD 0).toNat (show 0 < n by omega)
    have hm2 := Nat.mod_le ((l[a]?).getD 0).toNat n
    have := ((l[a]?).getD 0).toNat_lt
    omega
  · omega
theorem nx_le {l : List UInt8} {a : Nat} (n : Nat) (h : a ≤ l.length) : nxA l a n ≤ l.length := by
  unfold nxA
  split <;> omega
theorem next_any {s : St} {b : Nat} (h : TS s b) (n : Nat) (hn : n ≤ 1000000000) : ∃ (r : Nat) (s' : St), ThP TT PT 19 [.ptr b 0 0, .int .i64 (n : Int)] s (.int .i64 (r : Int)) s' ∧ TW s s' b ∧ s'.length = s.length ∧ (r < n ∨ r = 0) ∧ r ≤ 255 ∧ ∀ z, ThP TT PT 19 [.ptr b 0 0, .int .i64 (n : Int)] (s ++ [z]) (.int .i64 (r : Int)) (s' ++ [z]) := by
  have hb := ts_lt h
  obtain ⟨z, t, l, at', hs, h1, h2⟩ := h
  have hx := next_ex hs h1 h2 n hn
  obtain ⟨b1, b2⟩ := nx_bound l at' n
  refine ⟨_, _, hx, ⟨by simp, fun i hi hb => by rw [List.getElem?_set_ne (Ne.symm hb)], ⟨z, t, l, _, List.getElem?_set_self hb, nx_le n h1, h2⟩, hb⟩, by simp, b1, b2, fun z' => ?_⟩
  have := next_ex (get_app_some (l := [z']) hs) h1 h2 n hn
  rw [List.set_append_left _ _ hb] at this
  exact this
/-- a maker of loose programs lies at m, its tape at b -/
def LS (s : St) (m b : Nat) : Prop := TS s b ∧ m ≠ b ∧ ∃ line left : Int, s[m]? = some (.row [.ptr b 0 0, .int .i64 line, .int .i64 left] 56 0 0) ∧ 0 ≤ left ∧ left ≤ 70
def LW (s σ : St) (m b : Nat) : Prop := s.length ≤ σ.length ∧ (∀ i, i < s.length → i ≠ b → i ≠ m → σ[i]? = s[i]?) ∧ LS σ m b ∧ b < s.length ∧ m < s.length
theorem ls_lt {s : St} {m b : Nat} (h : LS s m b) : m < s.length := by
  obtain ⟨-, -, a, c, h, -⟩ := h
  exact (List.getElem?_eq_some_iff.1 h).1
theorem lw_refl {s : St} {m b : Nat} (h : LS s m b) : LW s s m b := ⟨Nat.le_refl _, fun _ _ _ _ => rfl, h, ts_lt h.1, ls_lt h⟩
theorem lw_trans {s σ τ : St} {m b : Nat} (h : LW s σ m b) (h' : LW σ τ m b) : LW s τ m b :=
  ⟨Nat.le_trans h.1 h'.1, fun i hi hb hm => by rw [h'.2.1 i (by have := h.1; omega) hb hm, h.2.1 i hi hb hm], h'.2.2.1, h.2.2.2⟩
theorem lw_push {s σ l : St} {m b : Nat} (h : LW s σ m b) : LW s (σ ++ l) m b := by
  obtain ⟨h1, h2, ⟨h3, h4, x, y, h5, h8⟩, h6⟩ := h
  refine ⟨by simp; omega, fun i hi hb hm => ?_, ⟨ts_push h3, h4, x, y, get_app_some h5, h8⟩, h6⟩
  rw [List.getElem?_append_left (by omega)]
  exact h2 i hi hb hm
theorem lw_set {s σ : St} {m b j : Nat} {x : Ob} (h : LW s σ m b) (hj : s.length ≤ j) : LW s (σ.set j x) m b := by
  obtain ⟨h1, h2, ⟨⟨z, t, r, a, h3, h3'⟩, h4, u, y, h5, h8⟩, h6, h7⟩ := h
  refine ⟨by simpa using h1, fun i hi hb hm => ?_, ⟨⟨z, t, r, a, ?_, h3'⟩, h4, u, y, ?_, h8⟩, h6, h7⟩
  · rw [List.getElem?_set_ne (by omega)]
    exact h2 i hi hb hm
  · rw [List.getElem?_set_ne (by omega)]
    exact h3
  · rw [List.getElem?_set_ne (by omega)]
    exact h5
theorem lw_tw {s σ τ : St} {m b : Nat} (h : LW s σ m b) (h' : TW σ τ b) : LW s τ m b := by
  obtain ⟨h1, h2, ⟨h3, h4, x, y, h5, h8⟩, h6, h7⟩ := h
  exact ⟨Nat.le_trans h1 h'.1, fun i hi hb hm => by rw [h'.2.1 i (by omega) hb, h2 i hi hb hm], ⟨h'.2.2.1, h4, x, y, by rw [h'.2.1 m (by omega) h4]; exact h5, h8⟩, h6, h7⟩
/-- the maker's own numbers change -/
theorem lw_own {s σ : St} {m b : Nat} {x y : Int} (h : LW s σ m b) (hy : 0 ≤ y ∧ y ≤ 70) : LW s (σ.set m (.row [.ptr b 0 0, .int .i64 x, .int .i64 y] 56 0 0)) m b := by
  obtain ⟨h1, h2, ⟨⟨z, t, r, a, h3, h3'⟩, h4, u, w, h5, h8⟩, h6, h7⟩ := h
  refine ⟨by simpa using h1, fun i hi hb hm => ?_, ⟨⟨z, t, r, a, ?_, h3'⟩, h4, x, y, ?_, hy⟩, h6, h7⟩
  · rw [List.getElem?_set_ne (by omega)]
    exact h2 i hi hb hm
  · rw [List.getElem?_set_ne (by omega)]
    exact h3
  · rw [List.getElem?_set_self (by omega)]
theorem lw_take {s σ : St} {m b : Nat} (h : LW s σ m b) : LW s (σ.take s.length) m b ∧ (σ.take s.length).length = s.length := by
  obtain ⟨h1, h2, ⟨⟨z, t, r, a, h3, h3'⟩, h4, u, w, h5, h8⟩, h6, h7⟩ := h
  have hl : (σ.take s.length).length = s.length := by simp; omega
  exact ⟨⟨by omega, fun i hi hb hm => by rw [List.getElem?_take_of_lt hi]; exact h2 i hi hb hm, ⟨⟨z, t, r, a, by rw [List.getElem?_take_of_lt h6]; exact h3, h3'⟩, h4, u, w, by rw [List.getElem?_take_of_lt h7]; exact h5, h8⟩, h6, h7⟩, hl⟩
theorem lw_left {s σ : St} {m b : Nat} (h : LW s σ m b) : ∀ i ob, i < s.length → σ[i]? = some ob → s[i]? = some ob ∨ within s.length [] ob.refs = true := by
  obtain ⟨h1, h2, ⟨⟨z, t, r, a, h3, h3'⟩, h4, u, w, h5, h8⟩, h6, h7⟩ := h
  intro i ob hi ho
  by_cases hb : i = b
  · subst hb
    rw [ho] at h3
    cases h3
    exact .inr (by rw [tsrow_refs]; rfl)
  · by_cases hm : i = m
    · subst hm
      rw [ho] at h5
      cases h5
      refine .inr ?_
      simp [within, Ob.refs, refsL, V.refs, h6]
    · rw [h2 i hi hb hm] at ho
      exact .inl ho
/-- a maker's function ends -/
theorem lw_end {s σ : St} {m b : Nat} {e : Env} {res : List AR} {v : V} {P : V → Prop} (hr : resV e σ res = some v) (hv : okRes v = true ∧ v.refs = []) (h : LW s σ m b) (hP : P v) :
    ∃ v, resV e σ res = some v ∧ (okRes v = true ∧ v.refs = []) ∧ (∀ i ob, i < s.length → σ[i]? = some ob → s[i]? = some ob ∨ within s.length [] ob.refs = true) ∧ (P v ∧ LW s (σ.take s.length) m b ∧ (σ.take s.length).length = s.length) :=
  ⟨v, hr, hv, lw_left h, hP, lw_take h⟩
theorem lnext {s : St} {m b : Nat} (h : LS s m b) (n : Nat) (hn : n ≤ 1000000000) : ∃ (r : Nat) (s' : St), ThP TT PT 19 [.ptr b 0 0, .int .i64 (n : Int)] s (.int .i64 (r : Int)) s' ∧ LW s s' m b ∧ s'.length = s.length ∧ (r < n ∨ r = 0) ∧ r ≤ 255 := by
  obtain ⟨r, s', h1, h2, h3, h4, h5, -⟩ := next_any h.1 n hn
  exact ⟨r, s', h1, lw_tw (lw_refl h) h2, h3, h4, h5⟩
/-- the same, its bound written as a number -/
theorem lnx {s : St} {m b : Nat} (h : LS s m b) (n : Nat) (N : Int) (hN : N = n) (hn : n ≤ 1000000000) : ∃ (r : Nat) (s' : St), ThP TT PT 19 [.ptr b 0 0, .int .i64 N] s (.int .i64 (r : Int)) s' ∧ LW s s' m b ∧ s'.length = s.length ∧ (r < n ∨ r = 0) ∧ r ≤ 255 := by
  subst hN
  exact lnext h n hn
theorem ls_row {s : St} {m b : Nat} (h : LS s m b) : ∃ line left : Int, s[m]? = some (.row [.ptr b 0 0, .int .i64 line, .int .i64 left] 56 0 0) := by
  obtain ⟨-, -, a, c, h, -⟩ := h
  exact ⟨a, c, h⟩
theorem ls_left {s : St} {m b : Nat} (h : LS s m b) {line left : Int} (hs : s[m]? = some (.row [.ptr b 0 0, .int .i64 line, .int .i64 left] 56 0 0)) : 0 ≤ left ∧ left ≤ 70 := by
  obtain ⟨-, -, a, c, h, h2⟩ := h
  rw [hs] at h
  cases h
  exact h2
end Go.Proofs.YtlehfgdhebapeaaDoor.KM
