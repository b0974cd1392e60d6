/- Walks: the tape of numbers. -/
import Derived.Test.YtlehfgdhebapeaaDoorGh
import Derived.Test.YtlehfgdhebapeaaDoorQt
import Derived.Test.YtlehfgdhebapeaaDoorLa
set_option linter.all false
namespace Go.Proofs.YtlehfgdhebapeaaDoor.KM
open Go
/-- a tape lies at b -/
def TS (s : St) (b : Nat) : Prop := ∃ (z : Bool) (t : Nat) (l : List UInt8) (at' : Nat), s[b]? = some (.row [SL z t (byteRows l), .int .i64 (at' : Int)] 54 0 0) ∧ at' ≤ l.length ∧ l.length ≤ 9223372036854775807
/-- only the tape turned -/
def TW (s σ : St) (b : Nat) : Prop := s.length ≤ σ.length ∧ (∀ i, i < s.length → i ≠ b → σ[i]? = s[i]?) ∧ TS σ b ∧ b < s.length
theorem ts_lt {s : St} {b : Nat} (h : TS s b) : b < s.length := by
  obtain ⟨z, t, l, a, h, -⟩ := h
  exact (List.getElem?_eq_some_iff.1 h).1
theorem tw_refl {s : St} {b : Nat} (h : TS s b) : TW s s b := ⟨Nat.le_refl _, fun _ _ _ => rfl, h, ts_lt h⟩
theorem ts_push {s l : St} {b : Nat} (h : TS s b) : TS (s ++ l) b := by
  obtain ⟨z, t, r, a, h, h'⟩ := h
  exact ⟨z, t, r, a, get_app_some h, h'⟩
theorem tsrow_refs {z : Bool} {t : Nat} {l : List UInt8} {a : Int} {T : Nat} : (Ob.row [SL z t (byteRows l), .int .i64 a] T 0 0).refs = [] := by
  unfold SL
  split <;> rfl
/-- a function on the caller's objects -/
theorem thp_go {T : Nat → Option AF} {pr : Nat → Option (List V → Option V)} {f p : Nat} {res : List AR} {thr : Bool} {body : AC} {vs : List V} {σ : St} {R : V → St → Prop} (hT : T f = some ⟨p, res, thr, body, none⟩) (hl : vs.length = p)
    (h : W T pr [.c body] (parEnv 0 vs) σ (Hd fun e' σ1 => ∃ v, resV e' σ1 res = some v ∧ (okRes v = true ∧ v.refs = []) ∧ (∀ i ob, i < σ.length → σ1[i]? = some ob → σ[i]? = some ob ∨ within σ.length [] ob.refs = true) ∧ R v (σ1.take σ.length))) : ∃ v σ', ThP T pr f vs σ v σ' ∧ R v σ' := by
  obtain ⟨e', σ1, hE, v, hr, ⟨h1, h2⟩, h3, h4⟩ := h
  exact ⟨v, _, ⟨_, hT, rfl, .fn hT rfl hl hE hr h1 (by rw [h2]; rfl) h3⟩, h4⟩
theorem tw_left {s σ : St} {b : Nat} (h : TW s σ b) : ∀ i ob, i < s.length → σ[i]? = some ob → s[i]? = some ob ∨ within s.length [] ob.refs = true := by
  intro i ob hi ho
  by_cases hb : i = b
  · subst hb
    obtain ⟨z, t, l, a, h1, -⟩ := h.2.2.1
    rw [ho] at h1
    cases h1
    exact .inr (by rw [tsrow_refs]; rfl)
  · rw [h.2.1 i hi hb] at ho
    exact .inl ho
def nxR (l : List UInt8) (a n : Nat) : Nat := if a < l.length ∧ 1 ≤ n then ((l[a]?).getD 0).toNat % n else 0
def nxA (l : List UInt8) (a n : Nat) : Nat := if a < l.length ∧ 1 ≤ n then a + 1 else a
theorem st_same {s : St} {b : Nat} {x : Ob} (h : s[b]? = some x) : s.set b x = s := by
  refine List.ext_getElem? fun i => ?_
  by_cases hi : b = i
  · subst hi
    rw [List.getElem?_set_self (List.getElem?_eq_some_iff.1 h).1, h]
  · rw [List.getElem?_set_ne hi]
theorem next_ex {s : St} {b t : Nat} {z : Bool} {l : List UInt8} {at' : Nat} (hs : s[b]? = some (.row [SL z t (byteRows l), .int .i64 (at' : Int)] 54 0 0)) (h1 : at' ≤ l.length) (h2 : l.length ≤ 9223372036854775807) (n : Nat) (hn : n ≤ 1000000000) :
    ThP TT PT 19 [.ptr b 0 0, .int .i64 (n : Int)] s (.int .i64 (nxR l at' n : Int)) (s.set b (.row [SL z t (byteRows l), .int .i64 (nxA l at' n : Int)] 54 0 0)) := by
  have hw : TW s s b := tw_refl ⟨z, t, l, at', hs, h1, h2⟩
  have hbl : (byteRows l).length = l.length := by simp [byteRows]
  suffices hh : ∃ v s', ThP TT PT 19 [.ptr b 0 0, .int .i64 (n : Int)] s v s' ∧ v = .int .i64 (nxR l at' n : Int) ∧ s' = (s.set b (.row [SL z t (byteRows l), .int .i64 (nxA l at' n : Int)] 54 0 0)) by
    obtain ⟨v, s', h3, rfl, rfl⟩ := hh
    exact h3
  refine thp_go T19 rfl ?_
  have fin : ¬ (at' < l.length ∧ 1 ≤ n) → V.int .i64 0 = .int .i64 (nxR l at' n : Int) ∧ s.take s.length = (s.set b (.row [SL z t (byteRows l), .int .i64 (nxA l at' n : Int)] 54 0 0)) := fun h => by
    unfold nxR nxA
    rw [if_neg h, if_neg h, st_same hs, List.take_length]
    exact ⟨rfl, rfl⟩
  by_cases hg : l.length ≤ at'
  · have f1 : ((l.length : Int) ≤ (at' : Int)) = True := eq_true (by omega)
    simp only [go_sem]
    refine w_drw (by kernel_rfl) ?_
    simp only [go_sem, hs, hbl, f1]
    exact ⟨_, rfl, ⟨rfl, rfl⟩, fun i ob _ h => .inl h, fin (by omega)⟩
  · have f1 : ((l.length : Int) ≤ (at' : Int)) = False := eq_false (by omega)
    by_cases hn1 : n < 1
    · have f2 : ((n : Int) < 1) = True := eq_true (by omega)
      simp only [go_sem]
      refine w_drw (by kernel_rfl) ?_
      simp only [go_sem, hs, hbl, f1, f2]
      exact ⟨_, rfl, ⟨rfl, rfl⟩, fun i ob _ h => .inl h, fin (by omega)⟩
    · have f2 : ((n : Int) < 1) = False := eq_false (by omega)
      simp only [go_sem]
      refine w_drw (by kernel_rfl) ?_
      simp only [go_sem, hs, hbl, f1, f2]
      have hx : ∃ c : UInt8, l[at']? = some c := ⟨_, List.getElem?_eq_getElem (by omega)⟩
      obtain ⟨c, hc⟩ := hx
      have hrow : (byteRows l)[at']? = some [.int .u8 (c.toNat : Int)] := by unfold byteRows; rw [List.getElem?_map, hc]; rfl
      have e1 : IntKind.i64.wrap ((at' : Int) + 1) = ((at' + 1 : Nat) : Int) := by rw [wrap64 (by omega)]; rfl
      have hbs := ts_lt hw.2.2.1
      have k1 : (s.set b (.row [SL z t (byteRows l), .int .i64 ((at' + 1 : Nat) : Int)] 54 0 0))[b]? = some (.row [SL z t (byteRows l), .int .i64 ((at' + 1 : Nat) : Int)] 54 0 0) := by rw [List.getElem?_set_self hbs]
      have e2 : IntKind.i64.wrap (((at' + 1 : Nat) : Int) - 1) = (at' : Int) := by rw [wrap64 (by omega)]; omega
      have f3 : ((n : Int) = 0) = False := eq_false (by omega)
      have hcl : c.toNat < 256 := c.toNat_lt
      have e3 : IntKind.i64.wrap (c.toNat : Int) = (c.toNat : Int) := wrap64 (by omega)
      have e4 : ((c.toNat : Int).tmod (n : Int)) = ((c.toNat % n : Nat) : Int) := by rw [Int.tmod_eq_emod_of_nonneg (by omega)]; rfl
      simp only [go_sem, e1]
      refine w_drw (by kernel_rfl) ?_
      simp only [go_sem, k1, e2, hbl, hrow, f3, not_false_eq_true, e3, e4]
      have hset : TW s (s.set b (.row [SL z t (byteRows l), .int .i64 ((at' + 1 : Nat) : Int)] 54 0 0)) b :=
        ⟨by simp, fun i hi hb => by rw [List.getElem?_set_ne (Ne.symm hb)], ⟨z, t, l, at' + 1, k1, by omega, h2⟩, hbs⟩
      refine ⟨_, rfl, ⟨rfl, rfl⟩, tw_left hset, ?_, ?_⟩
      · unfold nxR
        rw [if_pos (by omega), hc]
        rfl
      · unfold nxA
        rw [if_pos (by omega), List.take_of_length_le (by simp)]
theorem nx_bound (l : List UInt8) (a n : Nat) : (nxR l a n < n ∨ nxR l a n = 0) ∧ nxR l a n ≤ 255 := by
  unfold nxR
  split
  · rename_i h
    have hm := Nat.mod_lt ((l[a]?).getD 0).toNat (show 0 < n by omega)
    have hm2 := Nat.mod_le ((l[a]?).getD 0).toNat n
    have := ((l[a]?).getD 0).toNat_lt
    omega
  · omega
theorem nx_le {l : List UInt8} {a : Nat} (n : Nat) (h : a ≤ l.length) : nxA l a n ≤ l.length := by
  unfold nxA
  split <;> omega
theorem next_any {s : St} {b : Nat} (h : TS s b) (n : Nat) (hn : n ≤ 1000000000) : ∃ (r : Nat) (s' : St), ThP TT PT 19 [.ptr b 0 0, .int .i64 (n : Int)] s (.int .i64 (r : Int)) s' ∧ TW s s' b ∧ s'.length = s.length ∧ (r < n ∨ r = 0) ∧ r ≤ 255 ∧ ∀ z, ThP TT PT 19 [.ptr b 0 0, .int .i64 (n : Int)] (s ++ [z]) (.int .i64 (r : Int)) (s' ++ [z]) := by
  have hb := ts_lt h
  obtain ⟨z, t, l, at', hs, h1, h2⟩ := h
  have hx := next_ex hs h1 h2 n hn
  obtain ⟨b1, b2⟩ := nx_bound l at' n
  refine ⟨_, _, hx, ⟨by simp, fun i hi hb => by rw [List.getElem?_set_ne (Ne.symm hb)], ⟨z, t, l, _, List.getElem?_set_self hb, nx_le n h1, h2⟩, hb⟩, by simp, b1, b2, fun z' => ?_⟩
  have := next_ex (get_app_some (l := [z']) hs) h1 h2 n hn
  rw [List.set_append_left _ _ hb] at this
  exact this
/-- a maker of loose programs lies at m, its tape at b -/
def LS (s : St) (m b : Nat) : Prop := TS s b ∧ m ≠ b ∧ ∃ line left : Int, s[m]? = some (.row [.ptr b 0 0, .int .i64 line, .int .i64 left] 56 0 0) ∧ 0 ≤ left ∧ left ≤ 70
def LW (s σ : St) (m b : Nat) : Prop := s.length ≤ σ.length ∧ (∀ i, i < s.length → i ≠ b → i ≠ m → σ[i]? = s[i]?) ∧ LS σ m b ∧ b < s.length ∧ m < s.length
end Go.Proofs.YtlehfgdhebapeaaDoor.KM
/- Walks: loose expressions. -/
namespace Go.Proofs.YtlehfgdhebapeaaDoor.KM
open Go
theorem resN {τ : St} {i x t n : Nat} {cs : List V} {e : Env} (h : τ[i]? = some (.row cs t 0 0)) (h1 : e.get x = .ptr i 0 0) (hn : cs.length = n) : resV e τ [AR.cell x n false] = some (.agg cs) := by
  subst hn
  simp only [resV, resOne, h1, loadV, h]
  simp [mkOne]
theorem set_ok {cs : List V} (h : setC (.agg cs) = true) : okRes (.agg cs) = true ∧ (V.agg cs).refs = [] := ⟨setC_ok h, setC_refs h⟩
/-- a short name -/
def Nm4 (nm : List UInt8) : Prop := isNameE nm = true ∧ nm.length ≤ 4
theorem pick_str (l : List (List UInt8)) (hl : (l.all fun x => isNameE x && decide (x.length ≤ 4)) = true) {j : Nat} (hj : j < l.length) : ∃ nm, (l.map fun x => [V.str x])[j]? = some [.str nm] ∧ Nm4 nm := by
  refine ⟨l[j], by rw [List.getElem?_map, List.getElem?_eq_getElem hj]; rfl, ?_⟩
  have := List.all_eq_true.1 hl l[j] (List.getElem_mem _)
  simp only [Bool.and_eq_true, decide_eq_true_eq] at this
  exact this
theorem mname_fn (nm : List UInt8) : Fn TT PT 62 [.str nm] (.agg (Xp.row ⟨2, 0, nm, true, 0, []⟩)) := by
  refine Fn_go T62 rfl ?_
  simp only [go_sem]
  exact fr_set rfl
theorem mbin_fn (op : Int) (a c : Xp) : Fn TT PT 63 [.int .i64 op, .agg a.row, .agg c.row] (.agg (Xp.row ⟨op, 0, [], true, 1, [a, c]⟩)) := by
  have ha := xset a
  have hc := xset c
  refine Fn_go T63 rfl ?_
  rw [xrow_def ⟨op, 0, [], true, 1, [a, c]⟩]
  simp only [List.map_cons, List.map_nil]
  rw [xrow_def a, xrow_def c] at *
  simp only [go_sem]
  exact fr_set (by simp only [go_sem])
def EB : Nat → Nat
  | 0 => 22
  | d + 1 => 2 * EB d + 10
theorem eb_ge (d : Nat) : 22 ≤ EB d := by
  cases d with
  | zero => exact Nat.le_refl _
  | succ d =>
    have : ∀ d, 22 ≤ EB d := fun d => by
      induction d with
      | zero => exact Nat.le_refl _
      | succ d ih => simp only [EB]; omega
    exact this (d + 1)
theorem eb_step {d : Nat} (h : d ≠ 0) : EB d = 2 * EB (d - 1) + 10 := by
  cases d with
  | zero => exact absurd rfl h
  | succ d => rfl
theorem sg_len2 (op : Int) : (sgE op).length ≤ 2 := by
  unfold sgE
  split <;> simp
end Go.Proofs.YtlehfgdhebapeaaDoor.KM
