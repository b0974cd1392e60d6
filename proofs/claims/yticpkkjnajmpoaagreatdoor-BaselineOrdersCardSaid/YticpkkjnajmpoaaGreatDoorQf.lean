/- Walking by rewriting: results that lie in an object; cuts of settled slices. -/
import Derived.Test.YticpkkjnajmpoaaGreatDoorQe
set_option linter.all false
namespace Go.Proofs.YticpkkjnajmpoaaGreatDoor.KM
open Go
theorem rows_all {xs : List (List V)} (hr : ∀ r ∈ xs, r.all V.rowB = true) : xs.flatten.all V.rowB = true := by
  rw [List.all_eq_true]
  intro c hc
  obtain ⟨r, hrx, hcr⟩ := List.mem_flatten.1 hc
  exact List.all_eq_true.1 (hr r hrx) c hcr
theorem rn_row (i : Nat) : ∀ cs : List V, cs.all V.rowB = true → renL (ren 0 [i]) cs = cs
  | [], _ => rfl
  | c :: cs, h => by
    simp only [List.all_cons, Bool.and_eq_true] at h
    simp only [renL]
    rw [rn_row i cs h.2]
    congr 1
    cases c <;> simp [V.rowB] at h <;> rfl
theorem rn_app (ρ : Nat → Nat) : ∀ a b : List V, renL ρ (a ++ b) = renL ρ a ++ renL ρ b
  | [], _ => rfl
  | c :: a, b => by simp only [List.cons_append, renL, rn_app ρ a b]
theorem refs_app : ∀ a b : List V, refsL (a ++ b) = refsL a ++ refsL b
  | [], _ => rfl
  | c :: a, b => by simp only [List.cons_append, refsL, refs_app a b, List.append_assoc]
theorem cb_row {cs : List V} (h : cs.all V.rowB = true) : cs.all V.cellB = true := by
  rw [List.all_eq_true] at h ⊢
  intro c hc
  have := h c hc
  cases c <;> simp [V.rowB] at this <;> rfl
theorem ocs_app {σ : St} {a a' b b' : List V} (h1 : OCs σ a a') (h2 : OCs σ b b') : OCs σ (a ++ b) (a' ++ b') := by
  induction h1 with
  | nil => exact h2
  | cons h _ ih => exact .cons h ih
theorem ocs_row {σ : St} : ∀ {cs : List V}, cs.all V.rowB = true → OCs σ cs cs
  | [], _ => .nil
  | c :: cs, h => by
    simp only [List.all_cons, Bool.and_eq_true] at h
    exact .cons (oc_row h.1) (ocs_row h.2)
/-- a pure function hands a list back -/
theorem fr_sl {σ : St} {m e i g : Nat} {xs : List (List V)} (ho : σ[i]? = some (.row xs.flatten e g 0)) (hm : 0 < m) (hl : ∀ r ∈ xs, r.length = m) (hr : ∀ r ∈ xs, r.all V.rowB = true) : FR (.sl i g 0 xs.length m true) σ (.lst 0 xs) := by
  obtain ⟨hi, ho'⟩ := List.getElem?_eq_some_iff.1 ho
  have hx : refsL xs.flatten = [] := refsL_row (rows_all hr)
  have h0 : ren 0 [i] i = 0 := by simp [ren, List.findIdx_cons]
  refine .inr ⟨[i], ?_, ?_⟩
  · simp [leaveSome, okRes, okRes1, V.cellB, V.refs, within, ho', Ob.refs, hx, hi]
  · simp only [List.filterMap_cons, ho, List.filterMap_nil, List.map_cons, List.map_nil, Ob.ren, rn_row i _ (rows_all hr), V.ren, h0]
    simp only [back, settleV, settle1]
    exact oc_sl (σ := [.row xs.flatten e g 0]) (i := 0) (g := g) (e := e) (z := 0) (w := true) rfl hm hl hr (clo [.row xs.flatten e g 0] 9 (V.refs (.sl 0 g 0 xs.length m true)).eraseDups) (fun j hj => cloL_sub _ _ _ _ (List.mem_eraseDups.2 hj)) 7
/-- a struct, one cell of which is a list in an object -/
theorem fr_agg_sl {σ : St} {m e i g : Nat} {xs : List (List V)} {pre post : List V} (ho : σ[i]? = some (.row xs.flatten e g 0)) (hm : 0 < m) (hl : ∀ r ∈ xs, r.length = m) (hr : ∀ r ∈ xs, r.all V.rowB = true) (h1 : pre.all V.rowB = true) (h2 : post.all V.rowB = true) : FR (.agg (pre ++ .sl i g 0 xs.length m true :: post)) σ (.agg (pre ++ .lst 0 xs :: post)) := by
  obtain ⟨hi, ho'⟩ := List.getElem?_eq_some_iff.1 ho
  have hx : refsL xs.flatten = [] := refsL_row (rows_all hr)
  have hrefs : refsL (pre ++ V.sl i g 0 xs.length m true :: post) = [i] := by
    rw [refs_app, refsL_row h1]
    simp only [refsL, refsL_row h2, V.refs, List.nil_append, List.append_nil]
  have h0 : ren 0 [i] i = 0 := by simp [ren, List.findIdx_cons]
  refine .inr ⟨[i], ?_, ?_⟩
  · simp only [leaveSome, okRes, okRes1, V.refs, hrefs, List.all_append, List.all_cons, cb_row h1, cb_row h2, V.cellB]
    simp [within, ho', Ob.refs, hx, hi]
  · simp only [List.filterMap_cons, ho, List.filterMap_nil, List.map_cons, List.map_nil, Ob.ren, rn_row i _ (rows_all hr), V.ren, rn_app, rn_row i _ h1, renL, rn_row i _ h2, h0]
    exact ov_agg (σ := [.row xs.flatten e g 0]) (ocs_app (ocs_row h1) (.cons (oc_sl (σ := [.row xs.flatten e g 0]) (i := 0) (g := g) (e := e) (z := 0) (w := true) rfl hm hl hr) (ocs_row h2))) _ fun j hj => cloL_sub _ _ _ _ (List.mem_eraseDups.2 hj)
/-- lists that grow, nil as long as they are empty -/
def GW (σ : St) (m e lo : Nat) (u : V) (xs : List (List V)) : Prop := (u = .nils ∧ xs = []) ∨ (xs ≠ [] ∧ ∃ i g, u = .sl i g 0 xs.length m true ∧ σ[i]? = some (.row xs.flatten e g 0) ∧ lo ≤ i)
theorem gw_nil {σ : St} {m e lo : Nat} : GW σ m e lo .nils [] := .inl ⟨rfl, rfl⟩
theorem gw_gv {σ : St} {m e lo : Nat} {u : V} {xs : List (List V)} (h : GW σ m e lo u xs) : GV σ m e lo u xs := h.imp id fun h => h.2
theorem gw_cell {σ : St} {m e lo : Nat} {u : V} {xs : List (List V)} (h : GW σ m e lo u xs) : u.cellB = true := gv_cell (gw_gv h)
theorem gw_app {σ : St} {m e lo bytes : Nat} {u y : V} {xs ys : List (List V)} (h : GW σ m e lo u xs) (hlo0 : lo ≤ σ.length) (hy : srcRows σ m y = some ys) (hm : 0 < m) (hl : ∀ r ∈ xs, r.length = m) (hly : ∀ r ∈ ys, r.length = m) (hb : (xs.length + ys.length) * bytes ≤ 140737488355328) :
    ∃ u' σ', appV bytes (m, e) u y σ = some (u', σ') ∧ GW σ' m e lo u' (xs ++ ys) ∧ σ.length ≤ σ'.length ∧ (∀ j, (∀ i g, u = .sl i g 0 xs.length m true → j ≠ i) → j < σ.length → σ'[j]? = σ[j]?) ∧ ∀ j, j < lo → σ'[j]? = σ[j]? := by
  obtain ⟨u', σ', h1, h2, h3, h4, h5⟩ := gv_app (gw_gv h) hlo0 hy hm hl hly hb
  refine ⟨u', σ', h1, ?_, h3, h4, h5⟩
  by_cases he : xs ++ ys = []
  · rw [List.append_eq_nil_iff] at he
    obtain ⟨rfl, rfl⟩ := he
    rcases h with ⟨rfl, _⟩ | ⟨hn, _⟩
    · have : appV bytes (m, e) .nils y σ = some (.nils, σ) := by simp [appV, hy, appR, hm]
      rw [this] at h1
      cases h1
      exact gw_nil
    · exact absurd rfl hn
  · exact h2.imp id fun h => ⟨he, h⟩
theorem gw_push {σ l : St} {m e lo : Nat} {u : V} {xs : List (List V)} (h : GW σ m e lo u xs) : GW (σ ++ l) m e lo u xs := by
  rcases h with h | ⟨hn, i, g, h, ho, hlo⟩
  · exact .inl h
  · exact .inr ⟨hn, i, g, h, get_app_some ho, hlo⟩
theorem gw_set {σ : St} {j : Nat} {x : Ob} {m e lo : Nat} {u : V} {xs : List (List V)} (h : GW σ m e lo u xs) (hj : j < lo) : GW (σ.set j x) m e lo u xs := by
  rcases h with h | ⟨hn, i, g, h, ho, hlo⟩
  · exact .inl h
  · exact .inr ⟨hn, i, g, h, by rw [List.getElem?_set_ne (by omega)]; exact ho, hlo⟩
theorem sl_ne {t : Nat} {xs : List (List V)} (h : xs ≠ []) : SL true t xs = .lst t xs := by simp [SL, h]
theorem gw_oc {σ : St} {m e lo : Nat} {u : V} {xs : List (List V)} (h : GW σ m e lo u xs) (hm : 0 < m) (hl : ∀ r ∈ xs, r.length = m) (hr : ∀ r ∈ xs, r.all V.rowB = true) : OC σ u (SL true 0 xs) := by
  rcases h with ⟨rfl, rfl⟩ | ⟨hn, i, g, rfl, ho, hlo⟩
  · exact oc_row rfl
  · rw [sl_ne hn]; exact oc_sl ho hm hl hr
theorem fr_gw {σ : St} {m e lo : Nat} {u : V} {xs : List (List V)} (h : GW σ m e lo u xs) (hm : 0 < m) (hl : ∀ r ∈ xs, r.length = m) (hr : ∀ r ∈ xs, r.all V.rowB = true) : FR u σ (SL true 0 xs) := by
  rcases h with ⟨rfl, rfl⟩ | ⟨hn, i, g, rfl, ho, hlo⟩
  · exact fr_set rfl
  · rw [sl_ne hn]; exact fr_sl ho hm hl hr
theorem fr_agg {σ : St} {m e lo : Nat} {u : V} {xs : List (List V)} {pre post : List V} (h : GW σ m e lo u xs) (hm : 0 < m) (hl : ∀ r ∈ xs, r.length = m) (hr : ∀ r ∈ xs, r.all V.rowB = true) (h1 : pre.all V.rowB = true) (h2 : post.all V.rowB = true) : FR (.agg (pre ++ u :: post)) σ (.agg (pre ++ SL true 0 xs :: post)) := by
  rcases h with ⟨rfl, rfl⟩ | ⟨hn, i, g, rfl, ho, hlo⟩
  · exact fr_set (by simp only [setC, List.all_append, List.all_cons, h1, h2]; rfl)
  · rw [sl_ne hn]; exact fr_agg_sl ho hm hl hr h1 h2
/-! what a call leaves of the state, where an argument names a list's object -/
theorem freeze_one (σ : St) (i j : Nat) (h : j ≠ i) : (σ.freeze [i])[j]? = σ[j]? := by
  simp only [St.freeze]
  split
  · rw [List.getElem?_set_ne (by omega)]
  · rfl
theorem freeze_one_len (σ : St) (i : Nat) : (σ.freeze [i]).length = σ.length := by
  simp only [St.freeze]
  split
  · simp
  · rfl
theorem after_gw {σ : St} {m e lo : Nat} {u : V} {xs : List (List V)} (h : GW σ m e lo u xs) (hr : ∀ r ∈ xs, r.all V.rowB = true) {args : List V} {v : V} (ha : refsL args = u.refs) : ∃ σ', after σ args v = σ' ∧ σ'.length = σ.length ∧ ∀ j, j < lo → σ'[j]? = σ[j]? := by
  refine ⟨_, rfl, ?_⟩
  unfold after
  split
  · exact ⟨rfl, fun _ _ => rfl⟩
  · rcases h with ⟨rfl, rfl⟩ | ⟨hn, i, g, rfl, ho, hlo⟩
    · have : jsOf σ args = [] := by unfold jsOf; rw [ha]; rfl
      rw [this]
      exact ⟨rfl, fun _ _ => rfl⟩
    · have : jsOf σ args = [i] := by
        unfold jsOf
        rw [ha]
        have e1 : (V.refs (.sl i g 0 xs.length m true)).eraseDups = [i] := by simp [V.refs, List.eraseDups_cons]
        rw [e1]
        have hx : refsL xs.flatten = [] := refsL_row (rows_all hr)
        simp [clo, ho, Ob.refs, hx]
      rw [this]
      exact ⟨freeze_one_len σ i, fun j hj => freeze_one σ i j (by omega)⟩
section
variable {T : Nat → Option AF} {pr : Nat → Option (List V → Option V)} {Q : Env → St → Prop} {e : Env} {σ : St} {k : List It} {l : List AI} {kill : List Nat} {f : Nat} {args vs : List V} {v : V} {d : Option Nat}
/-- a pure function whose arguments name objects -/
theorem wx_fz {σ' : St} (hx : OVs σ args vs) (hf : Fn T pr f vs v) (ha : after σ args v = σ') (h : WR T pr l kill k (e.putO d v) σ' Q) : WX T pr (.call f args) d l kill k e σ Q :=
  wx_call (.pure (over_ov hx) hf) (by rw [ha]; exact h)
end
/-- a literal of settled cells freezes nothing -/
theorem rf_set {σ : St} {cs : List V} {m n : Nat} (h : cs.all V.rowB = true) : rowfV m n σ cs = some (.lst 1 (chop m n cs), σ) := by
  unfold rowfV
  rw [mapM_id fun c hc => settle_row (List.all_eq_true.1 h c hc), refsL_row h]
  rfl
attribute [go_sem] rf_set
/-- cuts of settled slices -/
theorem sl_cut_hi (z : Bool) (t m : Nat) (xs : List (List V)) (k : IntKind) (b : Nat) (hb : b ≤ xs.length) : ∃ z' t', slcV m (SL z t xs) none (some (.int k (b : Int))) none = some (SL z' t' (xs.take b)) := by
  unfold SL
  split
  · rename_i h
    obtain ⟨rfl, rfl⟩ := h
    have : b = 0 := by simpa using hb
    subst this
    exact ⟨true, 0, by simp [slcV, boundV]⟩
  · refine ⟨false, (if b = xs.length ∧ t = 1 then 1 else 0), ?_⟩
    simp [slcV, boundV, hb]
theorem sl_cut_lo (z : Bool) (t m : Nat) (xs : List (List V)) (k : IntKind) (b : Nat) (hb : b ≤ xs.length) (hm : ∀ r ∈ xs, r.length = m) : ∃ z' t', slcV m (SL z t xs) (some (.int k (b : Int))) none none = some (SL z' t' (xs.drop b)) := by
  unfold SL
  split
  · rename_i h
    obtain ⟨rfl, rfl⟩ := h
    have : b = 0 := by simpa using hb
    subst this
    exact ⟨true, 0, by simp [slcV, boundV]⟩
  · refine ⟨false, (if t = 1 then 1 else 0), ?_⟩
    have : (xs.all fun r => r.length == m) = true := by
      rw [List.all_eq_true]
      intro r hr
      simp [hm r hr]
    simp [slcV, boundV, hb, this]
end Go.Proofs.YticpkkjnajmpoaaGreatDoor.KM
