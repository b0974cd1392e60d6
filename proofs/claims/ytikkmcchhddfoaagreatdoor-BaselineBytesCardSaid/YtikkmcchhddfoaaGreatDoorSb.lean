/- Walks: bytes of baselines: the program. -/
import Derived.Test.YtikkmcchhddfoaaGreatDoorSa
set_option linter.all false
namespace Go.Proofs.YtikkmcchhddfoaaGreatDoor.KM
open Go
def strI (l : List UInt8) : List Int := l.map fun c => (c.toNat : Int)
theorem str_bI (l : List UInt8) : byteRows l = bI (strI l) := by
  unfold byteRows bI strI
  rw [List.map_map]
  rfl
theorem apps_str (ty : Nat) (x : V) (l : List UInt8) (σ : St) : appsV ty x (.str l) σ = appV 1 (1, ty) x (.lst 1 (bI (strI l))) σ := by
  rw [← str_bI]
  rfl
/-- a pure function that gives longer bytes -/
theorem gs_step {s : St} {lo f : Nat} {w : V} {bs bs' : List Int} {rest : List V} (h : GW s 1 5 lo w (bI bs)) (hc : Cl s) (hr : rest.all setC = true) (hF : ∀ z t, ∃ u σ0, FnO TT PT f (SL z t (bI bs) :: rest) u σ0 ∧ (GW σ0 1 5 0 u (bI bs') ∧ Cl σ0)) :
    ∃ w' s2, CallS TT PT f (w :: rest) s w' s2 ∧ GW s2 1 5 s.length w' (bI bs') ∧ Cl s2 ∧ s.length ≤ s2.length ∧ ∀ j, j ∉ w.refs → j < s.length → s2[j]? = s[j]? := by
  obtain ⟨u, σ0, hf, hg, hcl⟩ := hF true 0
  have hcell := gw_cell h
  have hov : OVs s (w :: rest) (SL true 0 (bI bs) :: rest) := by
    refine .cons (ov_cell (gw_oc h (by omega) (bI_len bs) (bI_row bs)) hcell) ?_
    have : ∀ l : List V, l.all setC = true → OVs s l l := by
      intro l
      induction l with
      | nil => exact fun _ => .nil
      | cons v l ih =>
        intro hl
        simp only [List.all_cons, Bool.and_eq_true] at hl
        exact .cons (ov_set hl.1) (ih hl.2)
    exact this rest hr
  have hrefs : refsL (w :: rest) = w.refs := by simp only [refsL, setL_refs hr, List.append_nil]
  have hnam := gw_named h (bI_refs bs)
  have hjs : jsOf s (w :: rest) = w.refs.eraseDups := by
    unfold jsOf
    rw [hrefs]
    exact clo_flat (fun j hj => (hnam j (List.mem_eraseDups.1 hj)).2) 9
  have hfl := freeze_len (jsOf s (w :: rest)) s
  have c2 := cl_join (freeze_cl (jsOf s (w :: rest)) s hc) hcl
  rw [hfl] at c2
  refine ⟨_, _, .own (over_ov hov) hf, gw_own hg (bI_row bs') hfl, c2, by unfold own; rw [List.length_append, hfl]; omega, fun j hj hlt => ?_⟩
  unfold own
  rw [List.getElem?_append_left (by omega), freeze_keep _ _ _ (by rw [hjs]; exact fun hm => hj (List.mem_eraseDups.1 hm))]
/-- a box that holds bytes -/
structure EB (s : St) (lo ob : Nat) (bs : List Int) (base : St) : Prop where
  cl : Cl s
  box : ∃ w, s[ob]? = some (.row [w] 22 0 0) ∧ GW s 1 5 lo w (bI bs) ∧ ob ∉ w.refs
  old : ∀ j, j < ob → j ≠ 1 → s[j]? = base[j]?
theorem eb_put {s base : St} {lo ob f : Nat} {bs bs' : List Int} {rest : List V} (h : EB s lo ob bs base) (hlo : 1 ≤ lo) (hob : ∀ w, s[ob]? = some (.row [w] 22 0 0) → ∀ i ∈ w.refs, i = 1 ∨ ob < i) (hr : rest.all setC = true) (hF : ∀ z t, ∃ u σ0, FnO TT PT f (SL z t (bI bs) :: rest) u σ0 ∧ (GW σ0 1 5 0 u (bI bs') ∧ Cl σ0)) :
    ∃ w w' s2, s[ob]? = some (.row [w] 22 0 0) ∧ CallS TT PT f (w :: rest) s w' s2 ∧ s2[ob]? = some (.row [w] 22 0 0) ∧ w'.cellB = true ∧ s.length ≤ s2.length ∧ EB (s2.set ob (.row [w'] 22 0 0)) s.length ob bs' base ∧ (∀ j, j ∉ w.refs → j < s.length → s2[j]? = s[j]?) ∧ ∀ i ∈ w'.refs, s.length ≤ i := by
  obtain ⟨hcl, ⟨w, q1, q2, q3⟩, hold⟩ := h
  obtain ⟨w', s2, hcall, hg, hc, hl, hk⟩ := gs_step q2 hcl hr hF
  have hobl : ob < s.length := (List.getElem?_eq_some_iff.1 q1).1
  have hwr := gw_named hg (bI_refs bs')
  refine ⟨w, w', s2, q1, hcall, (hk ob q3 hobl).trans q1, gw_cell hg, hl, ⟨cl_set hc fun i hi => ?_, ⟨w', by rw [List.getElem?_set_self (by omega)], gw_set hg (by omega), fun hm => by have := (hwr ob hm).1; omega⟩, fun j hj h1 => ?_⟩, hk, fun i hi => (hwr i hi).1⟩
  · simp only [Ob.refs, refsL, List.append_nil] at hi
    exact gw_refs hg i hi
  · rw [List.getElem?_set_ne (by omega), hk j (fun hm => by rcases hob w q1 j hm with h | h <;> omega) (by omega)]
    exact hold j hj h1
theorem eb_refs {s base : St} {lo ob : Nat} {bs : List Int} (h : EB s lo ob bs base) (hlo : ob < lo) : ∀ w, s[ob]? = some (.row [w] 22 0 0) → ∀ i ∈ w.refs, i = 1 ∨ ob < i := by
  obtain ⟨hcl, ⟨w, q1, q2, q3⟩, hold⟩ := h
  intro w2 hw i hi
  rw [q1] at hw
  cases hw
  have := (gw_named q2 (bI_refs bs) i hi).1
  exact .inr (by omega)
theorem eb_lo {s base : St} {lo lo2 ob : Nat} {bs : List Int} (h : EB s lo ob bs base) (hl : lo2 ≤ lo) : EB s lo2 ob bs base := by
  obtain ⟨hcl, ⟨w, q1, q2, q3⟩, hold⟩ := h
  exact ⟨hcl, ⟨w, q1, gw_lo q2 hl, q3⟩, hold⟩
theorem eb_str {s base : St} {lo ob : Nat} {bs : List Int} (h : EB s lo ob bs base) (hlo : ob < lo) (hll : lo ≤ s.length) (l : List UInt8) (hl : bs.length + l.length ≤ 100000000) :
    ∃ w w' s2, s[ob]? = some (.row [w] 22 0 0) ∧ appsV 5 w (.str l) s = some (w', s2) ∧ s2[ob]? = some (.row [w] 22 0 0) ∧ w'.cellB = true ∧ s.length ≤ s2.length ∧ EB (s2.set ob (.row [w'] 22 0 0)) lo ob (bs ++ strI l) base ∧ ∀ j, j < lo → s2[j]? = s[j]? := by
  obtain ⟨hcl, ⟨w, q1, q2, q3⟩, hold⟩ := h
  have hobl : ob < s.length := (List.getElem?_eq_some_iff.1 q1).1
  obtain ⟨w', s2, e1, g1, l1, -, f1⟩ := gw_app (bytes := 1) (y := .lst 1 (bI (strI l))) (ys := bI (strI l)) q2 (by omega) rfl (by omega) (bI_len bs) (bI_len _) (by rw [bI_n, bI_n]; simp [strI]; omega)
  rw [← bI_app] at g1
  have hc2 := gw_app_cl q2 rfl e1 (bI_refs bs) (bI_refs _) hcl
  have hwr := gw_named g1 (bI_refs _)
  refine ⟨w, w', s2, q1, by rw [apps_str]; exact e1, (f1 ob (by omega)).trans q1, gw_cell g1, l1, ⟨cl_set hc2 fun i hi => ?_, ⟨w', by rw [List.getElem?_set_self (by omega)], gw_set g1 (by omega), fun hm => by have := (hwr ob hm).1; omega⟩, fun j hj h1 => ?_⟩, f1⟩
  · simp only [Ob.refs, refsL, List.append_nil] at hi
    exact gw_refs g1 i hi
  · rw [List.getElem?_set_ne (by omega), f1 j (by omega)]
    exact hold j hj h1
theorem eb_push {s base J : St} {lo ob : Nat} {bs : List Int} (h : EB s lo ob bs base) (hJ : Cl (s ++ J)) : EB (s ++ J) lo ob bs base := by
  obtain ⟨hcl, ⟨w, q1, q2, q3⟩, hold⟩ := h
  have hobl : ob < s.length := (List.getElem?_eq_some_iff.1 q1).1
  exact ⟨hJ, ⟨w, get_app_some q1, gw_push q2, q3⟩, fun j hj h1 => by rw [List.getElem?_append_left (by omega)]; exact hold j hj h1⟩
def iRows (ns : List Int) : List (List V) := ns.map fun n => [V.int .i64 n]
def varsL (ns : List Int) : List Int := (ns.map varL).flatten
theorem varL_len (n : Int) : (varL n).length ≤ 11 := varI_len 10 _
/-- numbers are put -/
theorem put_th {s base : St} {lo ob : Nat} {bs : List Int} (ns : List Int) (hns : ns ≠ []) (h : EB s lo ob bs base) (hlo : 1 ≤ lo) (hob : ∀ w, s[ob]? = some (.row [w] 22 0 0) → ∀ i ∈ w.refs, i = 1 ∨ ob < i) (hb : bs ≠ []) (hl : bs.length ≤ 1000000) (hnl : ns.length ≤ 100) (hobl : ob < s.length) :
    ∃ s', Th TT PT 86 [.lst 1 (iRows ns), .ptr ob 0 0] s (.tup []) s' ∧ (EB s' s.length ob (bs ++ varsL ns) base ∧ s.length ≤ s'.length ∧ ∀ j, j < s.length → j ≠ ob → (∀ w, s[ob]? = some (.row [w] 22 0 0) → j ∉ w.refs) → s'[j]? = s[j]?) := by
  refine th_ex T86 rfl ?_ rfl rfl (fun s' h => ⟨h.1.cl, h.2.1⟩)
  have hn : (iRows ns).length = ns.length := List.length_map ..
  simp only [go_sem, Nat.reduceEqDiff, reduceIte, Nat.reduceAdd, Nat.reduceMul, Nat.reduceLeDiff, Int.reduceLT, Int.reduceLE, Int.reduceToNat, Int.reduceAdd, Int.reduceNeg, Int.reduceEq, hn]
  refine loop_w (α := Nat × Nat × St × List Int) (fun a => ns.length - a.1) (fun a => [(1, .ptr ob 0 0), (5, .lst 1 (iRows ns)), (6, .int .i64 ns.length), (7, .int .i64 a.1)]) (fun a => a.2.2.1)
    (fun a => a.1 ≤ ns.length ∧ EB a.2.2.1 a.2.1 ob a.2.2.2 base ∧ 1 ≤ a.2.1 ∧ (∀ w, a.2.2.1[ob]? = some (.row [w] 22 0 0) → ∀ i ∈ w.refs, i = 1 ∨ ob < i) ∧ a.2.2.2 ≠ [] ∧ a.2.2.2 ++ varsL (ns.drop a.1) = bs ++ varsL ns ∧ a.2.2.2.length ≤ 1000000 + 11 * a.1 ∧ s.length ≤ a.2.2.1.length ∧ (0 < a.1 → s.length ≤ a.2.1) ∧ ∀ j, j < s.length → j ≠ ob → (∀ w, s[ob]? = some (.row [w] 22 0 0) → j ∉ w.refs) → a.2.2.1[j]? = s[j]? ∧ ∀ w, a.2.2.1[ob]? = some (.row [w] 22 0 0) → j ∉ w.refs) ?_ (0, lo, s, bs) ⟨by simp, h, hlo, hob, hb, rfl, by simpa using hl, Nat.le_refl _, fun h => by simp at h, fun j hj h1 h2 => ⟨rfl, h2⟩⟩
  rintro ⟨i, lo, s1, b1⟩ ⟨hi, hE, hlo, hob, hb, hd, hlen, hsl, hpos, hfr⟩ ih
  simp only at hi hE hlo hob hb hd hlen hsl hpos hfr ih
  refine w_rep (by delta lp86_0; exact rfl) ?_
  rcases Nat.lt_or_ge i ns.length with hlt | hge
  · obtain ⟨n, hx, hdr, -⟩ := at_some hlt
    obtain ⟨w, w', s2, p1, p2, p3, p4, p5, p6, p7, p8⟩ := eb_put hE hlo hob (rest := [.int .i64 n]) rfl (fun z t => epi_own z t b1 n (by omega) hb)
    have hget : (iRows ns)[i]? = some [.int .i64 n] := by unfold iRows; rw [List.getElem?_map, hx]; rfl
    have hvl := varL_len n
    simp only [go_sem, Nat.reduceEqDiff, reduceIte, Nat.reduceAdd, Nat.reduceMul, Nat.reduceLeDiff, Int.reduceLT, Int.reduceLE, Int.reduceToNat, Int.reduceAdd, Int.reduceNeg, Int.reduceEq, lt_t hlt, hget, p1]
    refine wx_call p2 ?_
    simp only [go_sem, Nat.reduceEqDiff, reduceIte, Nat.reduceAdd, Nat.reduceMul, Nat.reduceLeDiff, Int.reduceLT, Int.reduceLE, Int.reduceToNat, Int.reduceAdd, Int.reduceNeg, Int.reduceEq, p3, cells1 p4, p4, inc64 (show i < 9223372036854775807 by omega)]
    refine W_keep (ih (i + 1, s1.length, s2.set ob (.row [w'] 22 0 0), b1 ++ varL n) (by simp; omega) ⟨by simp; omega, p6, by simp; omega, eb_refs p6 (by omega), by simp [hb], ?_, by simp; omega, by simp; omega, fun _ => hsl, fun j hj h1 h2 => ⟨?_, fun w2 hw2 => ?_⟩⟩) rfl
    · simp only
      rw [← hd, hdr]
      simp [varsL]
    · obtain ⟨f1, f2⟩ := hfr j hj h1 h2
      simp only
      rw [List.getElem?_set_ne (by omega), p7 j (f2 w p1) (by omega)]
      exact f1
    · have hob2 : ob < s2.length := (List.getElem?_eq_some_iff.1 p3).1
      simp only at hw2
      rw [List.getElem?_set_self hob2] at hw2
      cases hw2
      intro hm
      have := p8 j hm
      omega
  · have hi0 : 0 < i := by
      have : 0 < ns.length := List.length_pos_iff.2 hns
      omega
    have hlo2 := hpos hi0
    rw [List.drop_eq_nil_of_le hge] at hd
    have hd : b1 = bs ++ varsL ns := by simpa [varsL] using hd
    simp only [go_sem, Nat.reduceEqDiff, reduceIte, Nat.reduceAdd, Nat.reduceMul, Nat.reduceLeDiff, Int.reduceLT, Int.reduceLE, Int.reduceToNat, Int.reduceAdd, Int.reduceNeg, Int.reduceEq, lt_f hge]
    exact ⟨rfl, hd ▸ eb_lo hE hlo2, hsl, fun j hj h1 h2 => (hfr j hj h1 h2).1⟩
end Go.Proofs.YtikkmcchhddfoaaGreatDoor.KM
