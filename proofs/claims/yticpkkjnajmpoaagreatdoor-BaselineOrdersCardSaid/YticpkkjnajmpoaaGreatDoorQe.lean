/- Walking by rewriting: objects that go over to pure functions, lists that grow. -/
import Derived.Test.YticpkkjnajmpoaaGreatDoorQd
set_option linter.all false
namespace Go.Proofs.YticpkkjnajmpoaaGreatDoor.KM
open Go
variable {T : Nat → Option AF} {pr : Nat → Option (List V → Option V)}
theorem cloL_sub (σ : St) : ∀ (d : Nat) (js : List Nat) (i : Nat), i ∈ js → i ∈ clo σ d js
  | 0, _, _, h => h
  | d + 1, js, i, h => by
    simp only [clo]
    split
    · exact h
    · exact cloL_sub σ d _ i (List.mem_append_left _ h)
/-- what a cell, an argument becomes when it goes over -/
def OC (σ : St) (v v' : V) : Prop := ∀ js : List Nat, (∀ i ∈ v.refs, i ∈ js) → ∀ d, settle σ js (d + 2) v = some v'
def OV (σ : St) (v v' : V) : Prop := ∀ js : List Nat, (∀ i ∈ v.refs, i ∈ js) → settle1 σ js v = some v'
inductive OVs (σ : St) : List V → List V → Prop
  | nil : OVs σ [] []
  | cons {v v' : V} {vs vs' : List V} : OV σ v v' → OVs σ vs vs' → OVs σ (v :: vs) (v' :: vs')
inductive OCs (σ : St) : List V → List V → Prop
  | nil : OCs σ [] []
  | cons {v v' : V} {vs vs' : List V} : OC σ v v' → OCs σ vs vs' → OCs σ (v :: vs) (v' :: vs')
theorem ovs_map {σ : St} {js : List Nat} : ∀ {vs vs' : List V}, OVs σ vs vs' → (∀ i ∈ refsL vs, i ∈ js) → vs.mapM (settle1 σ js) = some vs'
  | _, _, .nil, _ => rfl
  | _, _, .cons h hs, hj => by
    simp only [refsL, List.mem_append] at hj
    rw [List.mapM_cons, h js fun i hi => hj i (.inl hi), ovs_map hs fun i hi => hj i (.inr hi)]
    rfl
theorem ocs_map {σ : St} {js : List Nat} {d : Nat} : ∀ {vs vs' : List V}, OCs σ vs vs' → (∀ i ∈ refsL vs, i ∈ js) → vs.mapM (settle σ js (d + 2)) = some vs'
  | _, _, .nil, _ => rfl
  | _, _, .cons h hs, hj => by
    simp only [refsL, List.mem_append] at hj
    rw [List.mapM_cons, h js (fun i hi => hj i (.inl hi)) d, ocs_map hs fun i hi => hj i (.inr hi)]
    rfl
theorem over_ov {σ : St} {vs vs' : List V} (h : OVs σ vs vs') : over σ vs = some vs' := ovs_map h fun i hi => cloL_sub σ 9 _ i (List.mem_eraseDups.2 hi)
theorem oc_row {σ : St} {v : V} (h : v.rowB = true) : OC σ v v := fun _ _ _ => settle_row h
theorem ov_set {σ : St} {v : V} (h : setC v = true) : OV σ v v := fun _ _ => settle1_set h
theorem ov_agg {σ : St} {cs cs' : List V} (h : OCs σ cs cs') : OV σ (.agg cs) (.agg cs') := fun js hj => by
  simp only [settle1]
  rw [ocs_map (d := 7) h hj]
  rfl
theorem ov_cell {σ : St} {v v' : V} (h : OC σ v v') (hc : v.cellB = true) : OV σ v v' := fun js hj => by
  unfold settle1
  split
  · have := h js hj 0
    simp [settle, V.rowB] at this
  · simp [V.cellB] at hc
  · exact h js hj 7
theorem chopL_app (m : Nat) : ∀ (xs : List (List V)) (tl : List V), (∀ r ∈ xs, r.length = m) → chop m xs.length (xs.flatten ++ tl) = xs
  | [], _, _ => rfl
  | r :: xs, tl, h => by
    have hr := h r List.mem_cons_self
    simp only [List.length_cons, chop, List.flatten_cons, List.append_assoc]
    rw [← hr, List.take_left, List.drop_left]
    congr 1
    rw [hr]
    exact chopL_app m xs tl fun r hr => h r (List.mem_cons_of_mem _ hr)
theorem chopL_flat {m : Nat} {xs : List (List V)} (h : ∀ r ∈ xs, r.length = m) : chop m xs.length xs.flatten = xs := by
  have := chopL_app m xs [] h
  rwa [List.append_nil] at this
theorem flatL_len {m : Nat} : ∀ {xs : List (List V)}, (∀ r ∈ xs, r.length = m) → xs.flatten.length = xs.length * m
  | [], _ => by simp
  | r :: xs, h => by
    rw [List.flatten_cons, List.length_append, h r List.mem_cons_self, flatL_len fun r hr => h r (List.mem_cons_of_mem _ hr), List.length_cons, Nat.succ_mul, Nat.add_comm]
/-- a slice of an object whose cells are settled -/
theorem oc_sl {σ : St} {i g m e z : Nat} {w : Bool} {xs : List (List V)} (ho : σ[i]? = some (.row xs.flatten e g z)) (hm : 0 < m) (hl : ∀ r ∈ xs, r.length = m) (hr : ∀ r ∈ xs, r.all V.rowB = true) : OC σ (.sl i g 0 xs.length m w) (.lst 0 xs) := by
  intro js hj d
  have hi : js.elem i = true := by
    have := hj i (by simp [V.refs])
    simpa using this
  have hf := flatL_len hl
  unfold settle
  rw [if_neg (by simp [V.rowB])]
  simp only [hi, if_true, ho]
  rw [if_pos ⟨trivial, hm, by omega⟩, List.drop_zero, ← hf, List.take_length, mapM_id fun c hc => ?_]
  · simp only [Option.map_some, chopL_flat hl]
  · obtain ⟨r, hrx, hcr⟩ := List.mem_flatten.1 hc
    exact settle_row (List.all_eq_true.1 (hr r hrx) c hcr)
section
variable {Q : Env → St → Prop} {e : Env} {σ : St} {k : List It} {l : List AI} {kill : List Nat} {f : Nat} {args vs : List V} {v : V} {d : Option Nat}
/-- a pure function, its arguments naming objects, its result flat -/
theorem wx_fo (hx : OVs σ args vs) (hf : Fn T pr f vs v) (hfl : v.flatV = true) (h : WR T pr l kill k (e.putO d v) σ Q) : WX T pr (.call f args) d l kill k e σ Q :=
  wx_call (.pure (over_ov hx) hf) (by unfold after; rw [if_pos hfl]; exact h)
variable {deps : List (List Nat)} {n m : Nat} {fs : Fs} {ls : Ls} {K : Env → St → Fs → Ls → Prop} {i : AI}
theorem wgx_fo (hx : OVs σ args vs) (hf : Fn T pr f vs v) (hfl : v.flatV = true) (h : K (e.putO i.dst v) σ [] ((m, fun s => over s args = some vs) :: ls)) : wgx T pr deps n m i (.call f args) e σ [] ls K :=
  .inr (.inl ⟨v, vs, over_ov hx, .inr hf, hfl, trivial, h⟩)
end
/-! code that ends where it ends: the rest is apart -/
def AC.flat : AC → Bool
  | .skip | .reg _ _ | .drw _ _ _ => true
  | .seq a b => a.flat && b.flat
  | .cond _ _ x y => x.flat && y.flat
  | _ => false
theorem W_mono {k : List It} {e : Env} {σ : St} {P Q : Env → St → Prop} (h : W T pr k e σ P) (hq : ∀ e σ, P e σ → Q e σ) : W T pr k e σ Q := let ⟨e', σ', h, q⟩ := h; ⟨e', σ', h, hq _ _ q⟩
theorem flat_iff : ∀ (c : AC), c.flat = true → ∀ (k : List It) (e : Env) (σ : St) (Q : Env → St → Prop), W T pr (.c c :: k) e σ Q ↔ W T pr [.c c] e σ fun e σ => W T pr k e σ Q
  | .skip, _, k, e, σ, Q => by rw [w_skip, w_skip, w_nil]
  | .reg kill ops, _, k, e, σ, Q => by
    rw [w_reg, w_reg]
    unfold WR
    simp only [w_nil]
  | .drw kill deps ops, _, k, e, σ, Q => by
    constructor
    · rintro ⟨e', σ', h, q⟩
      cases h with
      | cDrw E2 h1 h2 h3 => exact ⟨_, _, .cDrw E2 h1 h2 .cNil, e', σ', h3, q⟩
    · rintro ⟨e', σ', h, e2, σ2, g, q⟩
      cases h with
      | cDrw E2 h1 h2 h3 =>
        cases h3
        exact ⟨_, _, .cDrw E2 h1 h2 g, q⟩
  | .seq a b, h, k, e, σ, Q => by
    simp only [AC.flat, Bool.and_eq_true] at h
    rw [w_seq, w_seq, flat_iff a h.1, flat_iff a h.1 [.c b]]
    exact ⟨fun h1 => W_mono h1 fun e σ h2 => (flat_iff b h.2 k e σ Q).1 h2, fun h1 => W_mono h1 fun e σ h2 => (flat_iff b h.2 k e σ Q).2 h2⟩
  | .cond c kill x y, h, k, e, σ, Q => by
    simp only [AC.flat, Bool.and_eq_true] at h
    rw [w_cond, w_cond]
    unfold WC
    split
    · exact flat_iff x h.1 k _ σ Q
    · exact flat_iff y h.2 k _ σ Q
    · exact Iff.rfl
/-- what holds is not looked at -/
def Hd (P : Env → St → Prop) (e : Env) (σ : St) : Prop := P e σ
@[congr] theorem Hd_congr {P : Env → St → Prop} {e e' : Env} {σ : St} (h : e = e') : Hd P e σ = Hd P e' σ := by rw [h]
/-- both ways meet -/
theorem wc_join {b : Bool} {kill : List Nat} {x y : AC} {k : List It} {e : Env} {σ : St} {Q : Env → St → Prop} (hf : (x.flat && y.flat) = true) (P : Env → St → Prop) (h1 : b = true → WE T pr (e.del kill) [.c x] σ (Hd P)) (h2 : b = false → WE T pr (e.del kill) [.c y] σ (Hd P)) (h : ∀ e σ, P e σ → W T pr k e σ Q) : WC T pr (.bool b) kill x y k e σ Q := by
  simp only [Bool.and_eq_true] at hf
  refine wc_if (fun hb => ?_) fun hb => ?_
  · exact (flat_iff x hf.1 _ _ _ _).2 (W_mono (h1 hb) h)
  · exact (flat_iff y hf.2 _ _ _ _).2 (W_mono (h2 hb) h)
/-! lists that grow: nil, or a slice of an object of their own that they fill -/
def GV (σ : St) (m e lo : Nat) (u : V) (xs : List (List V)) : Prop := (u = .nils ∧ xs = []) ∨ ∃ i g, u = .sl i g 0 xs.length m true ∧ σ[i]? = some (.row xs.flatten e g 0) ∧ lo ≤ i
theorem gv_nil {σ : St} {m e lo : Nat} : GV σ m e lo .nils [] := .inl ⟨rfl, rfl⟩
/-- a value of a list: settled, or in an object -/
theorem gv_oc {σ : St} {m e lo : Nat} {u : V} {xs : List (List V)} (h : GV σ m e lo u xs) (hm : 0 < m) (hl : ∀ r ∈ xs, r.length = m) (hr : ∀ r ∈ xs, r.all V.rowB = true) : ∃ z t, OC σ u (SL z t xs) := by
  rcases h with ⟨rfl, rfl⟩ | ⟨i, g, rfl, ho, hlo⟩
  · exact ⟨true, 0, oc_row rfl⟩
  · exact ⟨false, 0, oc_sl ho hm hl hr⟩
theorem gv_cell {σ : St} {m e lo : Nat} {u : V} {xs : List (List V)} (h : GV σ m e lo u xs) : u.cellB = true := by
  rcases h with ⟨rfl, rfl⟩ | ⟨i, g, rfl, ho, hlo⟩ <;> rfl
theorem gv_len {σ : St} {m e lo : Nat} {u : V} {xs : List (List V)} (h : GV σ m e lo u xs) : lenV u = some (.int .i64 (xs.length : Int)) := by
  rcases h with ⟨rfl, rfl⟩ | ⟨i, g, rfl, ho, hlo⟩ <;> rfl
/-- append to a list that grows: its own object turns, or a new one comes; all others stay -/
theorem gv_app {σ : St} {m e lo bytes : Nat} {u y : V} {xs ys : List (List V)} (h : GV σ m e lo u xs) (hlo0 : lo ≤ σ.length) (hy : srcRows σ m y = some ys) (hm : 0 < m) (hl : ∀ r ∈ xs, r.length = m) (hly : ∀ r ∈ ys, r.length = m) (hb : (xs.length + ys.length) * bytes ≤ 140737488355328) :
    ∃ u' σ', appV bytes (m, e) u y σ = some (u', σ') ∧ GV σ' m e lo u' (xs ++ ys) ∧ σ.length ≤ σ'.length ∧ (∀ j, (∀ i g, u = .sl i g 0 xs.length m true → j ≠ i) → j < σ.length → σ'[j]? = σ[j]?) ∧ ∀ j, j < lo → σ'[j]? = σ[j]? := by
  have hall : (ys.all fun r => r.length == m) = true := by
    rw [List.all_eq_true]
    intro r hr
    simp [hly r hr]
  unfold appV
  simp only [hy, Option.bind_some]
  unfold appR
  rw [if_pos ⟨hall, hm⟩]
  rcases h with ⟨rfl, rfl⟩ | ⟨i, g, rfl, ho, hlo⟩
  · simp only
    rw [if_pos (by simpa using hb)]
    cases ys with
    | nil => exact ⟨.nils, σ, rfl, .inl ⟨rfl, rfl⟩, Nat.le_refl _, fun _ _ _ => rfl, fun _ _ => rfl⟩
    | cons y ys => exact ⟨_, _, rfl, .inr ⟨σ.length, 0, rfl, by simp, hlo0⟩, by simp, fun j _ hj => List.getElem?_append_left hj, fun j hj => List.getElem?_append_left (by omega)⟩
  · simp only
    rw [if_pos ⟨hb, trivial⟩]
    simp only [ho, if_true]
    cases ys with
    | nil => exact ⟨_, σ, rfl, .inr ⟨i, g, by simp, by simpa using ho, hlo⟩, Nat.le_refl _, fun _ _ _ => rfl, fun _ _ => rfl⟩
    | cons y ys =>
      have hf := flatL_len hl
      have hfy := flatL_len hly
      have hfy2 : (y :: ys).flatten.length = (ys.length + 1) * m := by rw [hfy]; rfl
      rw [if_neg (by simp), if_pos (by simp), if_neg (by
        rw [hf]
        have : (xs.length + (y :: ys).length) * m = xs.length * m + (ys.length + 1) * m := by rw [List.length_cons, Nat.add_mul]
        rw [this]
        have : 0 < (ys.length + 1) * m := Nat.mul_pos (by omega) hm
        omega), if_pos hf]
      refine ⟨_, _, rfl, .inr ⟨i, g + 1, by rw [List.length_append], ?_, hlo⟩, by simp, fun j hj _ => ?_, fun j hj => by rw [List.getElem?_set_ne (by omega)]⟩
      · have hi : i < σ.length := by
          rcases Nat.lt_or_ge i σ.length with h | h
          · exact h
          · rw [List.getElem?_eq_none h] at ho; cases ho
        rw [List.getElem?_set_self hi, List.flatten_append]
      · have := hj i g rfl
        rw [List.getElem?_set_ne (by omega)]
theorem cells1 {v : V} (h : v.cellB = true) : v.cells = [v] := by cases v <;> simp [V.cellB] at h <;> rfl
/-- a read of a cell of an object -/
theorem load_of {e : Env} {s : St} {n : Nat} {one : Bool} {x : S} {j g off t z : Nat} {cs : List V} {v : V} (hx : src e x = .ptr j g off) (hs : s[j]? = some (.row cs t g z)) (hl : off + n ≤ cs.length) (hv : mkOne one ((cs.drop off).take n) = some v) : evalOp (.load n one x) e s = some (v, s) := by
  simp only [evalOp, hx, loadV, hs]
  rw [if_pos ⟨trivial, hl⟩, hv]
  rfl
theorem get_app_some {s l : St} {j : Nat} {x : Ob} (h : s[j]? = some x) : (s ++ l)[j]? = some x := by
  have hi : j < s.length := by
    rcases Nat.lt_or_ge j s.length with h1 | h1
    · exact h1
    · rw [List.getElem?_eq_none h1] at h; cases h
  rw [List.getElem?_append_left hi, h]
theorem gv_push {σ l : St} {m e lo : Nat} {u : V} {xs : List (List V)} (h : GV σ m e lo u xs) : GV (σ ++ l) m e lo u xs := by
  rcases h with h | ⟨i, g, h, ho, hlo⟩
  · exact .inl h
  · exact .inr ⟨i, g, h, get_app_some ho, hlo⟩
theorem gv_set {σ : St} {j : Nat} {x : Ob} {m e lo : Nat} {u : V} {xs : List (List V)} (h : GV σ m e lo u xs) (hj : j < lo) : GV (σ.set j x) m e lo u xs := by
  rcases h with h | ⟨i, g, h, ho, hlo⟩
  · exact .inl h
  · exact .inr ⟨i, g, h, by rw [List.getElem?_set_ne (by omega)]; exact ho, hlo⟩
end Go.Proofs.YticpkkjnajmpoaaGreatDoor.KM
