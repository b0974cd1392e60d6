/- Walks: strings.Builder. -/
import Derived.Test.YtlehfgdhebapeaaDoorNu
set_option linter.all false
namespace Go.Proofs.YtlehfgdhebapeaaDoor.KM
open Go
theorem brows_len (l : List UInt8) : ∀ r ∈ byteRows l, r.length = 1 := by
  intro r hr
  obtain ⟨c, _, rfl⟩ := List.mem_map.1 hr
  rfl
theorem brows_app (a b : List UInt8) : byteRows (a ++ b) = byteRows a ++ byteRows b := List.map_append ..
theorem brows_n (a : List UInt8) : (byteRows a).length = a.length := List.length_map ..
theorem rowsByte_rows : ∀ l : List UInt8, rowsByte (byteRows l) = some l
  | [] => rfl
  | c :: l => by
    have h : c.toNat < 256 := c.toNat_lt
    have := rowsByte_rows l
    simp only [byteRows, List.map_cons, rowsByte] at this ⊢
    rw [if_pos (by omega), this]
    simp
theorem byte_refs (l : List UInt8) : refsL (byteRows l).flatten = [] := by
  refine refsL_row (rows_all fun r hr => ?_)
  obtain ⟨c, _, rfl⟩ := List.mem_map.1 hr
  rfl
theorem apps_app (ty : Nat) (x : V) (l : List UInt8) (σ : St) : appsV ty x (.str l) σ = appV 1 (1, ty) x (.lst 1 (byteRows l)) σ := rfl
theorem lt_of_get {s : St} {j : Nat} {x : Ob} (h : s[j]? = some x) : j < s.length := (List.getElem?_eq_some_iff.1 h).1
/-- a Builder at object b: its list u holds l -/
def BL (s : St) (b : Nat) (u : V) (l : List UInt8) : Prop := ∃ p, s[b]? = some (.row [p, u] 65 0 0) ∧ (p = .nilp ∨ p = .ptr b 0 0) ∧ GW s 1 5 (b + 1) u (byteRows l)
theorem bl_refs {s : St} {b : Nat} {u : V} {l : List UInt8} (h : BL s b u l) : ∀ i ∈ u.refs, i < s.length := by
  obtain ⟨p, _, _, hg⟩ := h
  exact gw_refs hg
theorem bl_push {s J : St} {b : Nat} {u : V} {l : List UInt8} (h : BL s b u l) : BL (s ++ J) b u l := by
  obtain ⟨p, h1, h2, h3⟩ := h
  exact ⟨p, get_app_some h1, h2, gw_push h3⟩
theorem cl_row {s : St} {cs : List V} {t : Nat} (h : Cl s) (hr : cs.all V.rowB = true) : Cl (s ++ [.row cs t 0 0]) := cl_push h (by simp only [Ob.refs, refsL_row hr]; simp)
theorem write_th {s : St} {b : Nat} {u : V} {l : List UInt8} (t : List UInt8) (h : BL s b u l) (hc : Cl s) (hb : l.length + t.length ≤ 100000000000000) :
    ∃ s' u', Th TT PT 23 [.ptr b 0 0, .str t] s (.tup [.int .i64 (t.length : Int), .nili]) s' ∧ BL s' b u' (l ++ t) ∧ Cl s' ∧ s.length ≤ s'.length ∧ ∀ j, j ≠ b → j ∉ u.refs → j < s.length → s'[j]? = s[j]? := by
  have hbr := bl_refs h
  obtain ⟨p, hs, hp, hg⟩ := h
  have hbl : b < s.length := lt_of_get hs
  -- behind copyCheck
  have h1 : ∃ s1, ccS 65 [.ptr b 0 0] s = some (.tup [], s1) ∧ s1[b]? = some (.row [.ptr b 0 0, u] 65 0 0) ∧ GW s1 1 5 (b + 1) u (byteRows l) ∧ s1.length = s.length ∧ Cl s1 ∧ ∀ j, j ≠ b → s1[j]? = s[j]? := by
    rcases hp with rfl | rfl
    · refine ⟨s.set b (.row [.ptr b 0 0, u] 65 0 0), ?_, by rw [List.getElem?_set_self hbl], gw_set hg (by omega), by simp, cl_set hc ?_, fun j hj => by rw [List.getElem?_set_ne (by omega)]⟩
      · simp [ccS, hs]
      · intro i hi
        simp only [Ob.refs, refsL, V.refs, List.append_nil, List.mem_append, List.mem_singleton] at hi
        rcases hi with rfl | hi
        · exact hbl
        · exact hbr i hi
    · exact ⟨s, by simp [ccS, hs], hs, hg, rfl, hc, fun _ _ => rfl⟩
  obtain ⟨s1, e1, q1, g1, l1, c1, f1⟩ := h1
  obtain ⟨u2, s2, e2, g2, l2, fo, f2⟩ := gw_app (bytes := 1) (y := .lst 1 (byteRows t)) (ys := byteRows t) g1 (by omega) rfl (by omega) (brows_len l) (brows_len t) (by rw [brows_n, brows_n]; omega)
  rw [← brows_app] at g2
  have q2 := (f2 b (by omega)).trans q1
  have c2 : Cl s2 ∧ ∀ i ∈ u2.refs, i < s2.length := ⟨gw_app_cl g1 rfl e2 (byte_refs l) (byte_refs t) c1, gw_refs g2⟩
  have c3 : Cl (s2.set b (.row [.ptr b 0 0, u2] 65 0 0)) := by
    refine cl_set c2.1 ?_
    intro i hi
    simp only [Ob.refs, refsL, V.refs, List.append_nil, List.mem_append, List.mem_singleton] at hi
    rcases hi with rfl | hi
    · omega
    · exact c2.2 i hi
  refine ⟨s2.set b (.row [.ptr b 0 0, u2] 65 0 0), u2, Th_all T23 rfl ?_ rfl rfl (by simp; omega) c3, ⟨.ptr b 0 0, by rw [List.getElem?_set_self (by omega)], .inr rfl, gw_set g2 (by omega)⟩, c3, by simp; omega, fun j hj hu hl => ?_⟩
  · simp only [go_sem]
    refine wx_call (.spec T45 rfl rfl e1) ?_
    simp only [go_sem, q1, apps_app, e2, q2, cells1 (gw_cell g2), gw_cell g2]
    exact ⟨rfl, rfl⟩
  · rw [List.getElem?_set_ne (by omega), fo j ?_ (by omega), f1 j hj]
    intro i g hi hji
    subst hji
    exact hu (by rw [hi]; simp [V.refs])
/-- what String gives -/
theorem bl_str {s : St} {b : Nat} {u : V} {l : List UInt8} (h : BL s b u l) : ∃ s', strS 65 5 [.ptr b 0 0] s = some (.str l, s') := by
  obtain ⟨p, hs, hp, hg⟩ := h
  rcases hg with ⟨rfl, hl⟩ | ⟨hn, i, g, rfl, ho, hlo⟩
  · have : l = [] := by simpa [byteRows] using hl
    subst this
    exact ⟨s, by simp [strS, hs]⟩
  · have hpos : 0 < (byteRows l).length := List.length_pos_iff.2 hn
    have hch : chop 1 (byteRows l).length (byteRows l).flatten = byteRows l := chopL_flat (brows_len l)
    have hfl := flatL_len (brows_len l)
    refine ⟨s.set i .dead, ?_⟩
    simp only [strS, hs, ho]
    rw [if_pos ⟨trivial, trivial, hpos⟩, if_pos ⟨trivial, trivial, by omega⟩, hch, rowsByte_rows]
    rfl
end Go.Proofs.YtlehfgdhebapeaaDoor.KM
