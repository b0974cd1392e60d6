/- Walks: the maker of programs: its state, its expressions. -/
import Derived.Test.YtlehfgdhebapeaaDoorIc
import Derived.Test.YtlehfgdhebapeaaDoorHa
set_option linter.all false
namespace Go.Proofs.YtlehfgdhebapeaaDoor.KM
open Go
/-- a maker lies at m, its tape at b -/
structure MKr (σ : St) (m b : Nat) (uH : V) (H : List (List UInt8)) : Prop where
  row : ∃ (th left : Int) (se tx ao lp : Bool), σ[m]? = some (.row [.ptr b 0 0, .int .i64 th, .int .i64 left, .bool se, .bool tx, .bool ao, .bool lp, uH] 80 0 0)
  tape : TS σ b
  ne : m ≠ b
  h : GS σ 1 9 uH (H.map fun x => [V.str x])
  hd : ∀ j ∈ uH.refs, j ≠ m ∧ j ≠ b
  cl : Cl σ
theorem mr_lt {σ : St} {m b : Nat} {uH : V} {H : List (List UInt8)} (h : MKr σ m b uH H) : m < σ.length := by
  obtain ⟨_, _, _, _, _, _, hr⟩ := h.row
  exact (List.getElem?_eq_some_iff.1 hr).1
theorem mr_fp {σ : St} {m b : Nat} {uH : V} {H : List (List UInt8)} (h : MKr σ m b uH H) : fp σ m = m :: (b :: uH.refs) := by
  obtain ⟨_, _, _, _, _, _, hr⟩ := h.row
  rw [fp_row hr]
  simp [refsL, V.refs]
theorem mr_any {σ τ : St} {m b : Nat} {uH : V} {H : List (List UInt8)} (h : MKr σ m b uH H) (hc : Cl τ) (hm : τ[m]? = σ[m]?) (hb : TS τ b) (hk : ∀ i ∈ uH.refs, τ[i]? = σ[i]?) : MKr τ m b uH H := by
  obtain ⟨a1, a2, a3, a4, a5, a6, hr⟩ := h.row
  exact ⟨⟨a1, a2, a3, a4, a5, a6, by rw [hm]; exact hr⟩, hb, h.ne, gs_any h.h hk, h.hd, hc⟩
theorem mr_push {σ : St} {m b : Nat} {uH : V} {H : List (List UInt8)} (h : MKr σ m b uH H) (l : St) (hc : Cl (σ ++ l)) : MKr (σ ++ l) m b uH H ∧ FW m σ (σ ++ l) :=
  ⟨mr_any h hc (List.getElem?_append_left (mr_lt h)) (ts_push h.tape) fun i hi => List.getElem?_append_left (gs_refs h.h i hi), fw_push _ (mr_lt h)⟩
theorem cl_tape {σ τ : St} {b : Nat} (hc : Cl σ) (hw : TW σ τ b) (hl : τ.length = σ.length) : Cl τ := by
  intro ob hm j hj
  obtain ⟨i, hi, rfl⟩ := List.getElem_of_mem hm
  by_cases hb : i = b
  · subst hb
    obtain ⟨z, t, l, a, h1, -⟩ := hw.2.2.1
    have := (List.getElem?_eq_some_iff.1 h1).2
    rw [this, tsrow_refs] at hj
    cases hj
  · have h2 := hw.2.1 i (by omega) hb
    rw [List.getElem?_eq_getElem hi, List.getElem?_eq_getElem (by omega)] at h2
    rw [Option.some.inj h2] at hj
    rw [hl]
    exact hc _ (List.getElem_mem _) j hj
theorem mr_next {σ : St} {m b : Nat} {uH : V} {H : List (List UInt8)} (h : MKr σ m b uH H) (n : Nat) (N : Int) (hN : N = n) (hn : n ≤ 1000000000) : ∃ (r : Nat) (σ' : St), ThP TT PT 19 [.ptr b 0 0, .int .i64 N] σ (.int .i64 (r : Int)) σ' ∧ MKr σ' m b uH H ∧ FW m σ σ' ∧ σ'.length = σ.length ∧ (r < n ∨ r = 0) ∧ σ'[m]? = σ[m]? := by
  subst hN
  obtain ⟨r, σ', h1, h2, h3, h4, -, -⟩ := next_any h.tape n hn
  have hf := mr_fp h
  have km := h2.2.1 m (mr_lt h) h.ne
  refine ⟨r, σ', h1, mr_any h (cl_tape h.cl h2 h3) km h2.2.2.1 fun i hi => h2.2.1 i (gs_refs h.h i hi) (h.hd i hi).2, ⟨by omega, fun j hj hn => h2.2.1 j hj fun e => hn (by rw [hf, e]; simp), fun j hj => ?_⟩, h3, h4, km⟩
  unfold fp at hj ⊢
  rw [km] at hj
  exact .inl hj
/-- the maker's own numbers -/
theorem mr_own {σ : St} {m b : Nat} {uH : V} {H : List (List UInt8)} (h : MKr σ m b uH H) (th left : Int) (se tx ao lp : Bool) : MKr (σ.set m (.row [.ptr b 0 0, .int .i64 th, .int .i64 left, .bool se, .bool tx, .bool ao, .bool lp, uH] 80 0 0)) m b uH H ∧ FW m σ (σ.set m (.row [.ptr b 0 0, .int .i64 th, .int .i64 left, .bool se, .bool tx, .bool ao, .bool lp, uH] 80 0 0)) := by
  have hm := mr_lt h
  have hf := mr_fp h
  have hrefs : refsL [.ptr b 0 0, .int .i64 th, .int .i64 left, .bool se, .bool tx, .bool ao, .bool lp, uH] = b :: uH.refs := by simp [refsL, V.refs]
  refine ⟨⟨⟨th, left, se, tx, ao, lp, List.getElem?_set_self hm⟩, ?_, h.ne, gs_any h.h fun i hi => List.getElem?_set_ne (Ne.symm (h.hd i hi).1), h.hd, cl_set h.cl fun i hi => ?_⟩, fw_own (fw_refl _ _) hm fun j hj => ?_⟩
  · obtain ⟨z, t, l, a, h1, h2⟩ := h.tape
    exact ⟨z, t, l, a, by rw [List.getElem?_set_ne h.ne]; exact h1, h2⟩
  · simp only [Ob.refs, hrefs, List.mem_cons] at hi
    rcases hi with rfl | hi
    · exact ts_lt h.tape
    · exact gs_refs h.h i hi
  · rw [hrefs] at hj
    rw [hf]
    exact .inl (List.mem_cons_of_mem _ hj)
/-- an object that is not the maker's stays -/
theorem mr_nfp {σ τ : St} {m b : Nat} {uH : V} {H : List (List UInt8)} {j : Nat} (h : MKr σ m b uH H) (hj : σ.length ≤ j) : j ∉ fp σ m := fun hm => by
  rw [mr_fp h] at hm
  simp only [List.mem_cons] at hm
  rcases hm with rfl | rfl | hm
  · have := mr_lt h; omega
  · have := ts_lt h.tape; omega
  · have := gs_refs h.h j hm; omega
theorem fw_keep {σ τ : St} {m j : Nat} {x : Ob} (hw : FW m σ τ) (hj : σ[j]? = some x) (hn : j ∉ fp σ m) : τ[j]? = some x ∧ j ∉ fp τ m := by
  have hl := (List.getElem?_eq_some_iff.1 hj).1
  refine ⟨by rw [hw.2.1 j hl hn]; exact hj, fun hm => ?_⟩
  rcases hw.2.2 j hm with h2 | h2
  · exact hn h2
  · omega
theorem thp_th {T : Nat → Option AF} {pr : Nat → Option (List V → Option V)} {f : Nat} {vs : List V} {σ σ' : St} {v : V} (h : Th T pr f vs σ v σ') : ThP T pr f vs σ v σ' :=
  let ⟨F, h1, _, h2, h3⟩ := h
  ⟨F, h1, h2, h3⟩
theorem pick_mem6 {j : Nat} (hj : j < 6) : ∃ op : Int, ([[V.int .i64 6], [V.int .i64 7], [V.int .i64 8], [V.int .i64 11], [V.int .i64 13], [V.int .i64 17]] : List (List V))[j]? = some [.int .i64 op] ∧ (6 ≤ op ∧ op ≤ 18) := by
  rcases (show j = 0 ∨ j = 1 ∨ j = 2 ∨ j = 3 ∨ j = 4 ∨ j = 5 by omega) with rfl | rfl | rfl | rfl | rfl | rfl
  · exact ⟨6, rfl, by omega⟩
  · exact ⟨7, rfl, by omega⟩
  · exact ⟨8, rfl, by omega⟩
  · exact ⟨11, rfl, by omega⟩
  · exact ⟨13, rfl, by omega⟩
  · exact ⟨17, rfl, by omega⟩
theorem mnum_fn (n : Int) : Fn TT PT 36 [.int .i64 n] (.agg (Xp.row ⟨1, n, [], true, 0, []⟩)) := by
  refine Fn_go T36 rfl ?_
  simp only [go_sem]
  exact fr_set rfl
theorem nameL (nm : List UInt8) : Fn TT PT 62 [.str nm] (.agg [.int .i64 2, .int .i64 0, .str nm, .nils]) := by
  have h := mname_fn nm
  rw [xrow_def] at h
  exact h
theorem numL (n : Int) : Fn TT PT 36 [.int .i64 n] (.agg [.int .i64 1, .int .i64 n, .str [], .nils]) := by
  have h := mnum_fn n
  rw [xrow_def] at h
  exact h
def XBk : Nat → Nat
  | 0 => 12
  | d + 1 => 2 * XBk d + 12
/-- an expression that is made -/
def MX (d : Nat) (x : Xp) : Prop := ShE x ∧ x.txt.length ≤ EB d ∧ bulkRow x.row ≤ XBk d
def MXp (d m b : Nat) (uH : V) (H : List (List UInt8)) (σ : St) : Prop := ∃ v σ', Th TT PT 82 [.ptr m 0 0, .int .i64 (d : Int)] σ v σ' ∧ (∃ x : Xp, v = .agg x.row ∧ MX d x) ∧ MKr σ' m b uH H ∧ FW m σ σ'
theorem xbk_ge (d : Nat) : 12 ≤ XBk d := by
  cases d <;> simp [XBk]
theorem xbk_step {d : Nat} (h : d ≠ 0) : XBk d = 2 * XBk (d - 1) + 12 := by
  cases d with
  | zero => exact absurd rfl h
  | succ d => rfl
theorem mexpr_step {d : Nat} (hd : d ≤ 5) (ih : ∀ d', d ≠ 0 → d' ≤ d - 1 → ∀ σ m b uH H, MKr σ m b uH H → MXp d' m b uH H σ) {σ : St} {m b : Nat} {uH : V} {H : List (List UInt8)} (h : MKr σ m b uH H) : MXp d m b uH H σ := by
  have hm0 := mr_lt h
  suffices hh : ∃ v σ', Th TT PT 82 [.ptr m 0 0, .int .i64 (d : Int)] σ v σ' ∧ ((∃ x : Xp, v = .agg x.row ∧ MX d x) ∧ MKr σ' m b uH H ∧ FW m σ σ') from hh
  refine th_keep T82 rfl ?_
  have z0 : Cl (σ ++ [.row [.int .i64 0, .int .i64 0, .str [], .nils] 40 0 0]) := cl_row h.cl rfl
  obtain ⟨s1, e1⟩ : ∃ s1 : St, s1 = σ ++ [.row [.int .i64 0, .int .i64 0, .str [], .nils] 40 0 0] := ⟨_, rfl⟩
  obtain ⟨h1, w1⟩ := mr_push h [.row [.int .i64 0, .int .i64 0, .str [], .nils] 40 0 0] z0
  rw [← e1] at h1 w1
  have k1 : s1[σ.length]? = some (.row [.int .i64 0, .int .i64 0, .str [], .nils] 40 0 0) := by rw [e1]; simp
  have n1 : σ.length ∉ fp s1 m := fun hm => by
    rw [mr_fp h1, ← mr_fp h] at hm
    exact mr_nfp (τ := σ) h (Nat.le_refl _) hm
  obtain ⟨_, _, _, _, _, _, m1⟩ := h1.row
  obtain ⟨k, s2, q2, h2, w2, l2, r2, m2⟩ := mr_next h1 10 10 rfl (by omega)
  have hk : k < 10 := by omega
  obtain ⟨k2, n2⟩ := fw_keep w2 k1 n1
  rw [m1] at m2
  have m2' := m2
  have w12 := fw_trans w1 w2
  rw [e1] at q2 m1
  -- the end
  have fin : ∀ (e : Env) (s : St) (x : Xp), e.get 4 = .ptr σ.length 0 0 → MX d x → MKr s m b uH H → FW m σ s → s[σ.length]? = some (.row [.int .i64 0, .int .i64 0, .str [], .nils] 40 0 0) → σ.length ∉ fp s m →
      ∃ v, resV e (s.set σ.length (.row x.row 40 0 0)) [.cell 4 4 false] = some v ∧ (okRes v = true ∧ v.refs = []) ∧ (σ.length ≤ (s.set σ.length (.row x.row 40 0 0)).length ∧ Cl (s.set σ.length (.row x.row 40 0 0))) ∧ ((∃ x : Xp, v = .agg x.row ∧ MX d x) ∧ MKr (s.set σ.length (.row x.row 40 0 0)) m b uH H ∧ FW m σ (s.set σ.length (.row x.row 40 0 0))) := fun e s x he hx hs hw hk hn => by
    have hl := (List.getElem?_eq_some_iff.1 hk).1
    have hc : Cl (s.set σ.length (.row x.row 40 0 0)) := cl_set hs.cl (by simp only [Ob.refs, rowb_refs (xset x)]; simp)
    rw [mr_fp hs] at hn
    simp only [List.mem_cons, not_or] at hn
    refine ⟨.agg x.row, resN (List.getElem?_set_self hl) he (xrow_len x), set_ok (xset x), ⟨by simpa using hw.1, hc⟩, ⟨x, rfl, hx⟩, mr_any hs hc (List.getElem?_set_ne hn.1) ?_ (fun i hi => List.getElem?_set_ne fun (e : σ.length = i) => hn.2.2 (by rw [e]; exact hi)), fw_set hw (Nat.le_refl _) hm0⟩
    obtain ⟨z, t, l, a, h1, h2⟩ := hs.tape
    exact ⟨z, t, l, a, by rw [List.getElem?_set_ne hn.2.1]; exact h1, h2⟩
  simp only [go_sem, m1]
  refine wx_any q2 ?_
  have hcase : (k < 2 ∨ (¬ k < 2 ∧ d = 0 ∧ 7 ≤ k)) ∨ (2 ≤ k ∧ k < 7) ∨ (d ≠ 0 ∧ k = 7) ∨ (d ≠ 0 ∧ 8 ≤ k) := by omega
  rcases hcase with hA | hB | hC | hD
  · obtain ⟨j, s3, q3, h3, w3, l3, r3, m3⟩ := mr_next h2 4 4 rfl (by omega)
    obtain ⟨k3, n3⟩ := fw_keep w3 k2 n2
    rcases hA with h4 | ⟨h4, h0, h10⟩
    case' inl => have f1 : ((k : Int) < 2) = True := eq_true (by omega)
    case' inr => have f1 : ((k : Int) < 2) = False := eq_false (by omega)
    case' inr => have f2 : ((d : Int) == 0) = true := by simp [h0]
    case' inr => have f3 : ((7 : Int) ≤ (k : Int)) = True := eq_true (by omega)
    case' inl => simp only [go_sem, m2, f1]
    case' inr => simp only [go_sem, m2, f1, f2, f3, ge_iff_le]
    all_goals
      refine wx_any q3 ?_
      simp only [go_sem]
      refine wx_fn (numL _) rfl ?_
      simp only [go_sem, k3]
      have hrr : Xp.row ⟨1, j, [], true, 0, []⟩ = [.int .i64 1, .int .i64 (j : Int), .str [], .nils] := by rw [xrow_def]; rfl
      rw [← hrr]
      refine fin _ s3 ⟨1, j, [], true, 0, []⟩ (by rfl) ⟨.num (by omega), ?_, ?_⟩ h3 (fw_trans w12 w3) k3 n3
      · rw [xtxt_def]
        have := itoa_le (j : Int)
        have := eb_ge d
        simp only [combE, if_true]
        omega
      · rw [bulkx]
        have := xbk_ge d
        simp [bulkRows]
        omega
  · obtain ⟨j, s3, q3, h3, w3, l3, r3, m3⟩ := mr_next h2 7 7 rfl (by omega)
    obtain ⟨k3, n3⟩ := fw_keep w3 k2 n2
    obtain ⟨nm, hn, hnl⟩ := pick_str [[97], [98], [120], [121], [118], [120], [121]] (by kernel_rfl) (j := j) (by simp; omega)
    simp only [List.map_cons, List.map_nil] at hn
    have f1 : ((k : Int) < 2) = False := eq_false (by omega)
    have f4 : ((k : Int) < 7) = True := eq_true (by omega)
    have f3 : ((7 : Int) ≤ (k : Int)) = False := eq_false (by omega)
    cases f2 : ((d : Int) == 0)
    all_goals
      simp only [go_sem, m2, f1, f2, f3, f4, ge_iff_le]
      refine wx_any q3 ?_
      simp only [go_sem, hn]
      refine wx_fn (nameL nm) rfl ?_
      simp only [go_sem, k3]
      have hrr : Xp.row ⟨2, 0, nm, true, 0, []⟩ = [.int .i64 2, .int .i64 0, .str nm, .nils] := by rw [xrow_def]; rfl
      rw [← hrr]
      refine fin _ s3 ⟨2, 0, nm, true, 0, []⟩ (by rfl) ⟨.name hnl.1, ?_, ?_⟩ h3 (fw_trans w12 w3) k3 n3
      · rw [xtxt_def]
        have := eb_ge d
        have := hnl.2
        simp only [combE, show ((2 : Int) = 1) = False from eq_false (by omega), if_false, if_true]
        omega
      · rw [bulkx]
        have := xbk_ge d
        have := hnl.2
        simp [bulkRows]
        omega
  · obtain ⟨hd0, rfl⟩ := hC
    obtain ⟨_, s3, q3, ⟨x, rfl, hx⟩, h3, w3⟩ := ih 0 hd0 (by omega) s2 m b uH H h2
    obtain ⟨k3, n3⟩ := fw_keep w3 k2 n2
    rw [show (((0 : Nat) : Int)) = 0 from rfl] at q3
    have f2 : ((d : Int) == 0) = false := by simp [hd0]
    have hxs := xset x
    have hxr := xrow_def x
    rw [hxr] at q3 hxs
    simp only [go_sem, m2, f2, Int.cast_ofNat_Int, Int.reduceBEq, Int.reduceLT]
    refine wx_th q3 ?_
    simp only [go_sem, k3]
    have hrr : Xp.row ⟨3, 0, [113], true, 1, [x]⟩ = [.int .i64 3, .int .i64 0, .str [113], .lst 1 [[.int .i64 x.op, .int .i64 x.n, .str x.nm, SL x.z x.t (x.l.map Xp.row)]]] := by rw [xrow_def]; simp only [List.map_cons, List.map_nil, hxr]; rfl
    rw [← hrr]
    refine fin _ s3 ⟨3, 0, [113], true, 1, [x]⟩ (by rfl) ⟨.idx (by kernel_rfl) hx.1, ?_, ?_⟩ h3 (fw_trans w12 w3) k3 n3
    · rw [xtxt_def]
      have := eb_step hd0
      have := hx.2.1
      have : EB 0 ≤ EB (d - 1) := eb_ge _
      simp [combE]
      omega
    · rw [bulkx]
      have := xbk_step hd0
      have := hx.2.2
      have : XBk 0 ≤ XBk (d - 1) := xbk_ge _
      simp [bulkRows]
      omega
  · obtain ⟨hd0, h8⟩ := hD
    obtain ⟨j, s3, q3, h3, w3, l3, r3, m3⟩ := mr_next h2 6 6 rfl (by omega)
    obtain ⟨k3, n3⟩ := fw_keep w3 k2 n2
    obtain ⟨op, ho, hop⟩ := pick_mem6 (j := j) (by omega)
    obtain ⟨_, s4, q4, ⟨x, rfl, hx⟩, h4, w4⟩ := ih (d - 1) hd0 (by omega) s3 m b uH H h3
    obtain ⟨k4, n4⟩ := fw_keep w4 k3 n3
    obtain ⟨_, s5, q5, ⟨y, rfl, hy⟩, h5, w5⟩ := ih (d - 1) hd0 (by omega) s4 m b uH H h4
    obtain ⟨k5, n5⟩ := fw_keep w5 k4 n4
    have f1 : ((k : Int) < 2) = False := eq_false (by omega)
    have f2 : ((d : Int) == 0) = false := by simp [hd0]
    have f4 : ((k : Int) < 7) = False := eq_false (by omega)
    have f5 : ((k : Int) == 7) = false := by simp; omega
    have e3 : IntKind.i64.wrap ((d : Int) - 1) = ((d - 1 : Nat) : Int) := by rw [wrap64 (by omega)]; omega
    have hbn := mbin_fn op x y
    have hxs := xset x
    have hys := xset y
    have hxr := xrow_def x
    have hyr := xrow_def y
    have hrr : Xp.row ⟨op, 0, [], true, 1, [x, y]⟩ = [.int .i64 op, .int .i64 0, .str [], .lst 1 [x.row, y.row]] := by rw [xrow_def]; rfl
    have hr0 := hrr
    rw [hrr] at hbn
    rw [hxr] at q4 hxs hbn hrr
    rw [hyr] at q5 hys hbn hrr
    simp only [go_sem, m2, f1, f2, f4, f5]
    refine w_drw (by kernel_rfl) ?_
    simp only [go_sem, m2]
    refine wgA q3 ?_
    simp only [go_sem, ho]
    refine wgR ?_
    simp only [go_sem, e3]
    refine wgA (thp_th q4) ?_
    simp only [go_sem, e3]
    refine wgA (thp_th q5) ?_
    simp only [go_sem]
    refine wgx_fn hbn (by simp only [go_sem]) ?_
    simp only [go_sem, k5]
    refine wgE ?_
    simp only [go_sem]
    rw [← hrr]
    refine fin _ s5 ⟨op, 0, [], true, 1, [x, y]⟩ (by rfl) ⟨.bin (by omega) hx.1 hy.1, ?_, ?_⟩ h5 (fw_trans w12 (fw_trans w3 (fw_trans w4 w5))) k5 n5
    · rw [xtxt_def]
      have := eb_step hd0
      have h2 := (put_len (x.op, x.txt) (leftE op)).2
      have h2' := (put_len (y.op, y.txt) (lvE op + 1)).2
      simp only at h2 h2'
      have h3 : (sgE op).length ≤ 2 := sg_len2 _
      have h0 : combE op 0 [] [(x.op, x.txt), (y.op, y.txt)] = putE (x.op, x.txt) (leftE op) ++ 32 :: (sgE op ++ 32 :: putE (y.op, y.txt) (lvE op + 1)) := by
        unfold combE
        rw [if_neg (by omega), if_neg (by omega)]
      have := hx.2.1
      have := hy.2.1
      simp only [List.map_cons, List.map_nil, h0, List.length_append, List.length_cons]
      omega
    · rw [bulkx]
      have := xbk_step hd0
      have := hx.2.2
      have := hy.2.2
      simp [bulkRows]
      omega
theorem mexpr_th : ∀ (d : Nat), d ≤ 5 → ∀ (d' : Nat), d' ≤ d → ∀ (σ : St) (m b : Nat) (uH : V) (H : List (List UInt8)), MKr σ m b uH H → MXp d' m b uH H σ
  | 0, hd, d', hd', σ, m, b, uH, H, h => by
    obtain rfl : d' = 0 := by omega
    exact mexpr_step hd (fun _ h0 _ => absurd rfl h0) h
  | d + 1, hd, d', hd', σ, m, b, uH, H, h => mexpr_step (by omega) (fun d2 h0 h2 σ m b uH H h => mexpr_th d (by omega) d2 (by omega) σ m b uH H h) h
end Go.Proofs.YtlehfgdhebapeaaDoor.KM
