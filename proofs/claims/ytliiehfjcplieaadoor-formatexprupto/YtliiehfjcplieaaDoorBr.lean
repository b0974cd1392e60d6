/- The bridge: an argument of type api.Expr, as the row reads it, is an expression in memory. -/
import Derived.Test.YtliiehfjcplieaaDoorLen
import Derived.Test.YtliiehfjcplieaaDoorPv
namespace Go.Proofs.YtliiehfjcplieaaDoor
open Go.RowKit AM

theorem hasT_int {P : Program} {t : TypeId} {k : IntKind} {pcs : List PV} (hu : P.underlying t = some (.int k)) (h : HasT P t pcs) : ∃ n, pcs = [.lit (.int k n)] ∧ (Lit.int k n).wf = true := by
  cases h with
  | int hu' hw =>
    rw [hu] at hu'
    injection hu' with e
    injection e with e
    subst e
    exact ⟨_, rfl, hw⟩
  | _ => simp_all
theorem hasT_str {P : Program} {t : TypeId} {pcs : List PV} (hu : P.underlying t = some .string) (h : HasT P t pcs) : ∃ s, pcs = [.lit (.string s)] ∧ s.size ≤ maxLen := by
  cases h with
  | str hu' hs => exact ⟨_, rfl, hs⟩
  | _ => simp_all

theorem wf_range {n : Int} (h : (Lit.int .i64 n).wf = true) : -9223372036854775808 ≤ n ∧ n ≤ 9223372036854775807 := by
  simp only [Lit.wf, Bool.and_eq_true, decide_eq_true_eq] at h
  exact h
theorem rep_lit {ψ : Sig} {w : World} {v u : Value} (h : Rep ψ w (.lit v) u) : u = v := by cases h; rfl

/-- a row of cells is an expression -/
def ExOk (w : World) (pcs : List PV) : Prop := pcs.length = 4 ∧ ∀ cs : List Value, cs.length = pcs.length → (∀ j, j < cs.length → Rep (sig0 w) w (pcs.getD j .nils) (cs.getD j undef)) →
  ∃ x d, ExIn w 0 w.heap.size d x (.agg cs.toArray) ∧ ∀ d', cnt d' x → (txt d' x).length ≤ 26 * bulkRow pcs
/-- a cell is a slice of expressions -/
def ExsOk (w : World) (pcs : List PV) : Prop := ∃ p, pcs = [p] ∧ ∀ v, Rep (sig0 w) w p v → ∃ (A : Option Addr) (cap : Nat) (l : List Ex) (d : Nat), v = .slice A l.length cap ∧ l.length ≤ 9223372036854775807 ∧
  (∀ i, i < l.length → ∃ (b off : Nat) (A' : Option Addr) (c : Nat), A = some ⟨b, off, none⟩ ∧ b < w.heap.size ∧
        w.cell? ⟨b, off + i * 4, none⟩ = some (.int .i64 (l.getD i Ex.nil).op) ∧
        w.cell? ⟨b, off + i * 4 + 1, none⟩ = some (.int .i64 (l.getD i Ex.nil).n) ∧
        w.cell? ⟨b, off + i * 4 + 2, none⟩ = some (.string (l.getD i Ex.nil).name) ∧
        w.cell? ⟨b, off + i * 4 + 3, none⟩ = some (.slice A' (l.getD i Ex.nil).l.length c) ∧
        ExIn w 0 w.heap.size d (l.getD i Ex.nil) (.agg #[.int .i64 (l.getD i Ex.nil).op, .int .i64 (l.getD i Ex.nil).n, .string (l.getD i Ex.nil).name, .slice A' (l.getD i Ex.nil).l.length c])) ∧
  ∀ d', (∀ y ∈ l, cnt d' y) → lens d' l + 26 ≤ 26 * bulkRow pcs

theorem exs_of {Q : Nat → Ex → Nat → Prop} (mono : ∀ i x d d', d ≤ d' → Q i x d → Q i x d') : ∀ (n : Nat), (∀ i, i < n → ∃ x d, Q i x d) → ∃ (l : List Ex) (d : Nat), l.length = n ∧ ∀ i, i < n → Q i (l.getD i Ex.nil) d
  | 0, _ => ⟨[], 0, rfl, fun i hi => absurd hi (by omega)⟩
  | n + 1, h => by
    obtain ⟨l, d, hl, hx⟩ := exs_of mono n (fun i hi => h i (by omega))
    obtain ⟨x, d1, hr⟩ := h n (by omega)
    refine ⟨l ++ [x], max d d1, by simp [hl], fun i hi => ?_⟩
    by_cases hin : i < n
    · rw [getD_app_l _ _ _ _ (by omega)]
      exact mono _ _ _ _ (Nat.le_max_left _ _) (hx i hin)
    · obtain rfl : i = n := by omega
      rw [getD_app_r _ _ _ _ (by omega), hl]
      simpa using mono _ _ _ _ (Nat.le_max_right _ _) hr

theorem cell_lt {w : World} {b o : Nat} {v : Value} (h : w.cell? ⟨b, o, none⟩ = some v) : b < w.heap.size := by
  unfold World.cell? at h
  split at h
  · rename_i hh; exact (Array.getElem?_eq_some_iff.1 hh).1
  · cases h
theorem bulkRows_of {d' : Nat} : ∀ (l : List Ex) (xs : List (List PV)), l.length = xs.length → (∀ y ∈ l, cnt d' y) → (∀ i, i < l.length → cnt d' (l.getD i Ex.nil) → (txt d' (l.getD i Ex.nil)).length ≤ 26 * bulkRow (xs.getD i [])) → lens d' l ≤ 26 * bulkRows xs
  | [], _, _, _, _ => by simp [lens]
  | y :: l, [], h, _, _ => by simp at h
  | y :: l, x :: xs, h, hc, hi => by
    have h0 := hi 0 (by simp) (by simpa using hc y (by simp))
    have := bulkRows_of (d' := d') l xs (by simpa using h) (fun z hz => hc z (by simp [hz])) (fun i hi' hcn => by simpa using hi (i + 1) (by simpa using hi') (by simpa using hcn))
    rw [lens_cons]
    simp only [bulkRows]
    simp at h0
    omega

theorem ex_of {w : World} {t : TypeId} {pcs : List PV} (h : HasT Tryd.prog t pcs) : (t = 25 → ExOk w pcs) ∧ (t = 23 → ExsOk w pcs) := by
  induction h with
  | bool hu => exact ⟨(fun e => by subst e; rw [Tryd.underlying25] at hu; cases hu), (fun e => by subst e; rw [Tryd.underlying23] at hu; cases hu)⟩
  | int hu => exact ⟨(fun e => by subst e; rw [Tryd.underlying25] at hu; cases hu), (fun e => by subst e; rw [Tryd.underlying23] at hu; cases hu)⟩
  | str hu => exact ⟨(fun e => by subst e; rw [Tryd.underlying25] at hu; cases hu), (fun e => by subst e; rw [Tryd.underlying23] at hu; cases hu)⟩
  | nils hu =>
    refine ⟨(fun e => by subst e; rw [Tryd.underlying25] at hu; cases hu), fun e => ⟨.nils, rfl, fun v hv => ?_⟩⟩
    cases hv
    exact ⟨none, 0, [], 0, rfl, by simp, fun i hi => absurd hi (by simp), fun d' _ => by simp [lens, bulkRow, PV.bulk]⟩
  | @lst t e xs hu hlen hT ih =>
    refine ⟨(fun e => by subst e; rw [Tryd.underlying25] at hu; cases hu), fun et => ⟨.lst 0 xs, rfl, fun v hv => ?_⟩⟩
    subst et
    rw [Tryd.underlying23] at hu
    injection hu with hu
    injection hu with hu
    subst hu
    cases hv with
    | @lst _ _ a cap m row h1 h2 h3 h4 h5 h6 h7 =>
    have key : ∀ i, i < xs.length → ∃ x d, ∃ (A' : Option Addr) (c : Nat), m = 4 ∧ a.block < w.heap.size ∧ w.cell? ⟨a.block, a.off + i * 4, none⟩ = some (.int .i64 x.op) ∧
        w.cell? ⟨a.block, a.off + i * 4 + 1, none⟩ = some (.int .i64 x.n) ∧ w.cell? ⟨a.block, a.off + i * 4 + 2, none⟩ = some (.string x.name) ∧
        w.cell? ⟨a.block, a.off + i * 4 + 3, none⟩ = some (.slice A' x.l.length c) ∧
        ExIn w 0 w.heap.size d x (.agg #[.int .i64 x.op, .int .i64 x.n, .string x.name, .slice A' x.l.length c]) ∧ ∀ d', cnt d' x → (txt d' x).length ≤ 26 * bulkRow (xs.getD i []) := by
      intro i hi
      obtain ⟨hl4, hok⟩ := (ih i hi).1 rfl
      have hm : m = 4 := by rw [← h5 i hi, hl4]
      subst hm
      obtain ⟨x, d, hx, hb⟩ := hok [row i 0, row i 1, row i 2, row i 3] (by rw [hl4]; rfl) (fun j hj => by
        have hj' : j = 0 ∨ j = 1 ∨ j = 2 ∨ j = 3 := by simp at hj; omega
        rcases hj' with rfl | rfl | rfl | rfl
        · exact h7 i 0 hi (by omega)
        · exact h7 i 1 hi (by omega)
        · exact h7 i 2 hi (by omega)
        · exact h7 i 3 hi (by omega))
      have c0 := h6 i 0 hi (by omega)
      have c1 := h6 i 1 hi (by omega)
      have c2 := h6 i 2 hi (by omega)
      have c3 := h6 i 3 hi (by omega)
      cases d with
      | zero => exact hx.elim
      | succ d =>
      obtain ⟨A', c, hv, hr⟩ := id hx
      simp at hv
      obtain ⟨e0, e1, e2, e3⟩ := hv
      refine ⟨x, d + 1, A', c, rfl, cell_lt c0, by rw [← e0]; exact c0, by rw [← e1]; exact c1, by rw [← e2]; exact c2, by rw [← e3]; exact c3, ?_, hb⟩
      simpa [e0, e1, e2, e3] using hx
    obtain ⟨l, d, hl, hx⟩ := exs_of (fun i x d d' hd hq => by
      obtain ⟨A', c, q0, q1, q2, q3, q4, q5, q6, q7⟩ := hq
      exact ⟨A', c, q0, q1, q2, q3, q4, q5, q6.deep hd, q7⟩) xs.length key
    refine ⟨some a, cap, l, d, by rw [hl], ?_, fun i hi => ?_, fun d' hc => ?_⟩
    · unfold maxLen at hlen; omega
    · obtain ⟨A', c, q0, q1, q2, q3, q4, q5, q6, q7⟩ := hx i (by omega)
      have hs := (h3 (by omega)).1
      exact ⟨a.block, a.off, A', c, by rw [← hs], q1, q2, q3, q4, q5, q6⟩
    · have := bulkRows_of (d' := d') l xs hl hc (fun i hi hcn => by
        obtain ⟨_, _, _, _, _, _, _, _, _, q7⟩ := hx i (by omega)
        exact q7 d' hcn)
      simp only [bulkRow, PV.bulk]
      omega
  | @struct t fs parts hu hlen hT ih =>
    refine ⟨fun e => ?_, (fun e => by subst e; rw [Tryd.underlying23] at hu; cases hu)⟩
    subst e
    rw [Tryd.underlying25] at hu
    injection hu with hu
    injection hu with hu
    subst hu
    match parts, hlen with
    | [p0, p1, p2, p3], _ =>
    obtain ⟨op, rfl, w0⟩ := hasT_int Tryd.underlying3 (hT 0 _ rfl)
    obtain ⟨n, rfl, w1⟩ := hasT_int Tryd.underlying2 (hT 1 _ rfl)
    obtain ⟨s, rfl, w2⟩ := hasT_str Tryd.underlying9 (hT 2 _ rfl)
    obtain ⟨p, hp, hs⟩ := (ih 3 _ rfl).2 rfl
    simp at hp
    subst hp
    refine ⟨rfl, fun cs hl hr => ?_⟩
    match cs, hl with
    | [v0, v1, v2, v3], _ =>
    have r0 := rep_lit (hr 0 (by simp))
    have r1 := rep_lit (hr 1 (by simp))
    have r2 := rep_lit (hr 2 (by simp))
    simp at r0 r1 r2
    subst r0 r1 r2
    obtain ⟨A, cap, l, d, rfl, hll, hel, hb⟩ := hs v3 (hr 3 (by simp))
    have g0 : -9223372036854775808 ≤ op ∧ op ≤ 9223372036854775807 := by
      exact wf_range w0
    have g1 : -9223372036854775808 ≤ n ∧ n ≤ 9223372036854775807 := by
      exact wf_range w1
    have g2 : s.size ≤ 9223372036854775807 := by unfold maxLen at w2; omega
    refine ⟨⟨op, n, s, l⟩, d + 1, ⟨A, cap, by simp, ⟨g0.1, g0.2, g1.1, g1.2, hll, g2, fun _ _ _ => Nat.zero_le _⟩, hel⟩, fun d' hc => ?_⟩
    cases d' with
    | zero => exact hc.elim
    | succ d' =>
    have ht : (txt (d' + 1) ⟨op, n, s, l⟩).length ≤ 26 + nmLen ⟨op, n, s, l⟩ + lens d' l := txt_len (d := d') (x := ⟨op, n, s, l⟩) g1.1 g1.2 hc.1
    have hb' := hb d' hc.2
    have hn : nmLen ⟨op, n, s, l⟩ ≤ s.size := by unfold nmLen; split <;> simp
    simp [bulkRow, PV.bulk] at hb' ⊢
    omega
end Go.Proofs.YtliiehfjcplieaaDoor
