/- What a value looks like; constants; operands (second form). -/
import Derived.Test.YticpkkjnajmpoaaGreatDoorKc
import Derived.Laws.Append
import Derived.Laws.Cells
import Derived.Laws.CopyRow
import Derived.Lib.FrozenHead
import Derived.ChangeKeysEq
set_option linter.all false
namespace Go.Proofs.YticpkkjnajmpoaaGreatDoor.KM
open Go Go.RowKit

section
variable {γ : Gh} {w : World} {u : Value}
theorem repC_int {k : IntKind} {n : Int} (h : RepC γ w (.int k n) u) : u = .int k n := by cases h with | row h => cases h; rfl
theorem repC_bool {b : Bool} (h : RepC γ w (.bool b) u) : u = .bool b := by cases h with | row h => cases h; rfl
theorem repC_str {l : List UInt8} (h : RepC γ w (.str l) u) : u = .string ⟨l.toArray⟩ ∧ l.length ≤ maxLen := by cases h with | row h => cases h with | str h => exact ⟨rfl, h⟩
theorem repC_nili (h : RepC γ w .nili u) : u = .nilIface := by cases h with | row h => cases h; rfl
theorem repC_nils (h : RepC γ w .nils u) : u = .slice none 0 0 := by cases h with | row h => cases h; rfl
theorem repC_nilp (h : RepC γ w .nilp u) : u = .pointer none := by cases h with
  | row h => cases h
  | nilp => rfl
theorem repC_nilf (h : RepC γ w .nilf u) : u = .nilFunc := by cases h with
  | row h => cases h
  | nilf => rfl
theorem repC_ifc (h : RepC γ w .ifc u) : ∃ t x, u = .iface t x := by cases h with
  | row h => cases h; exact ⟨_, _, rfl⟩
  | ifc => exact ⟨_, _, rfl⟩
theorem repC_fn {f : Nat} {a c : List V} (h : RepC γ w (.fn f a c) u) : ∃ ua uc : List Value, u = .func (.func f) ua.toArray uc.toArray ∧ a.length = ua.length ∧ c.length = uc.length ∧ (∀ j, j < a.length → RepC γ w (a.getD j .und) (ua.getD j undef)) ∧ ∀ j, j < c.length → RepC γ w (c.getD j .und) (uc.getD j undef) := by cases h with
  | row h => cases h
  | fn h1 h2 h3 h4 => exact ⟨_, _, rfl, h1, h2, h3, h4⟩
theorem repC_ptr {i g off : Nat} (h : RepC γ w (.ptr i g off) u) : ∃ b' blk g', u = .pointer (some ⟨b', off, none⟩) ∧ γ.O[i]? = some (blk, g') ∧ g ≤ g' ∧ (g = g' → b' = blk) := by cases h with
  | row h => cases h
  | ptr h1 h2 h3 => exact ⟨_, _, _, rfl, h1, h2, h3⟩
theorem repC_sl {i g off len m : Nat} {own : Bool} (h : RepC γ w (.sl i g off len m own) u) : ∃ b' o' cap blk g', u = .slice (some ⟨b', o', none⟩) len cap ∧ γ.O[i]? = some (blk, g') ∧ g ≤ g' ∧ len ≤ cap ∧ cap ≤ maxLen ∧ (0 < cap → o' = off) ∧ (g = g' → b' = blk ∧ (own = true → sizeOf? w blk = some (off + cap * m))) := by cases h with
  | row h => cases h
  | sl h1 h2 h3 h4 h5 h6 => exact ⟨_, _, _, _, _, rfl, h1, h2, h3, h4, h5, h6⟩
theorem repC_mp {i : Nat} (h : RepC γ w (.mp i) u) : ∃ blk g', γ.O[i]? = some (blk, g') ∧ (g' = 0 → u = .map (some blk)) := by cases h with
  | row h => cases h
  | mp h1 h2 h3 => exact ⟨_, _, h1, h3⟩
theorem repR_low {κ : Kap} {t : Nat} {xs : List (List V)} (h : RepR κ w (.lst t xs) u) : RepR κ w (.lst 0 xs) u := by
  cases h with
  | lst row h1 h2 h3 h4 h5 h6 h7 => exact .lst row (fun h => by omega) h2 h3 h4 h5 h6 h7
theorem repC_lst {t : Nat} {xs : List (List V)} (h : RepC γ w (.lst t xs) u) : ∃ a cap, u = .slice (some a) xs.length cap ∧ RepR γ.κ w (.lst 0 xs) (.slice (some a) xs.length cap) ∧ (t = 1 → cap = xs.length) := by
  cases h with
  | row h =>
    have h' := repR_low h
    cases h with
    | lst row h1 h2 h3 h4 h5 h6 h7 => exact ⟨_, _, rfl, h', h1⟩
theorem repC_imm {r : List V} {off : Nat} {u : Value} (h : RepC γ w (.imm r off) u) : ∃ b o k, ∃ row : Nat → Value, u = .pointer (some ⟨b, o + off, none⟩) ∧ γ.κ b = some k ∧ o + r.length ≤ k ∧ (∀ j, j < r.length → w.cell? ⟨b, o + j, none⟩ = some (row j)) ∧ ∀ j, j < r.length → RepR γ.κ w (r.getD j .und) (row j) := by
  cases h with
  | row h => cases h
  | imm row h1 h2 h3 h4 => exact ⟨_, _, _, row, rfl, h1, h2, h3, h4⟩
theorem repC_none {v : V} (h : RepC γ w v u) : v.cellB = true ∧ u.oneCell' = true := by
  cases h with
  | row h => cases h <;> exact ⟨rfl, rfl⟩
  | imm => exact ⟨rfl, rfl⟩
  | ptr => exact ⟨rfl, rfl⟩
  | sl => exact ⟨rfl, rfl⟩
  | nilp => exact ⟨rfl, rfl⟩
  | nilf => exact ⟨rfl, rfl⟩
  | ifc => exact ⟨rfl, rfl⟩
  | fn => exact ⟨rfl, rfl⟩
  | mp _ h => exact ⟨rfl, h⟩
theorem rep1_cell {v : V} (hv : v.cellB = true) (h : Rep1 γ w v u) : RepC γ w v u := by
  cases h with
  | cell h => exact h
  | agg => cases hv
theorem repV_cell {v : V} (hv : v.cellB = true) (h : RepV γ w v u) : RepC γ w v u := by
  cases h with
  | und => cases hv
  | skp => cases hv
  | one h => exact rep1_cell hv h
  | tup => cases hv
theorem repV_of {v : V} (h : RepC γ w v u) : RepV γ w v u := .one (.cell h)
theorem rep1_agg {cs : List V} (h : Rep1 γ w (.agg cs) u) : ∃ us : List Value, u = .agg us.toArray ∧ cs.length = us.length ∧ ∀ j, j < cs.length → RepC γ w (cs.getD j .und) (us.getD j undef) := by
  cases h with
  | cell h => exact absurd (repC_none h).1 (by simp [V.cellB])
  | agg h1 h2 => exact ⟨_, rfl, h1, h2⟩
theorem repV_agg {cs : List V} (h : RepV γ w (.agg cs) u) : ∃ us : List Value, u = .agg us.toArray ∧ cs.length = us.length ∧ ∀ j, j < cs.length → RepC γ w (cs.getD j .und) (us.getD j undef) := by
  cases h with
  | one h => exact rep1_agg h
theorem repV_tup {vs : List V} (h : RepV γ w (.tup vs) u) : ∃ us : List Value, u = .tuple us.toArray ∧ vs.length = us.length ∧ ∀ j, j < vs.length → Rep1 γ w (vs.getD j .und) (us.getD j undef) := by
  cases h with
  | one h => cases h with
    | cell h => exact absurd (repC_none h).1 (by simp [V.cellB])
  | tup h1 h2 => exact ⟨_, rfl, h1, h2⟩
/-- the cells of a value, where they are all cells -/
theorem rep_cells {v : V} (h : RepV γ w v u) (hc : v.cells.all V.cellB = true) : ∃ us : List Value, u.cells = us.toArray ∧ v.cells.length = us.length ∧ ∀ j, j < v.cells.length → RepC γ w (v.cells.getD j .und) (us.getD j undef) := by
  by_cases hv : ∃ cs, v = .agg cs
  · obtain ⟨cs, rfl⟩ := hv
    obtain ⟨us, rfl, h1, h2⟩ := repV_agg h
    exact ⟨us, rfl, h1, h2⟩
  · have e : v.cells = [v] := by
      cases v <;> first | rfl | exact absurd ⟨_, rfl⟩ hv
    rw [e] at hc ⊢
    have hcell : v.cellB = true := by simpa using hc
    have h' := repV_cell hcell h
    have hu : u.cells = #[u] := by
      have := (repC_none h').2
      cases u <;> first | rfl | simp [Value.oneCell'] at this
    exact ⟨[u], by rw [hu], rfl, fun j hj => by
      obtain rfl : j = 0 := by simpa using hj
      exact h'⟩
end

/-! Constants -/
def constB : V → Value → Bool
  | .bool a, .bool b => a == b
  | .int k a, .int k' b => decide (k = k') && a == b
  | .str l, .string s => s.data.toList == l && decide (l.length ≤ maxLen)
  | .nili, .nilIface => true
  | .nils, .slice none 0 0 => true
  | .nilp, .pointer none => true
  | .nilf, .nilFunc => true
  | _, _ => false
def constRow : List V → List Value → Bool
  | [], [] => true
  | v :: vs, u :: us => constB v u && constRow vs us
  | _, _ => false
def constV : V → Value → Bool
  | .agg cs, .agg us => constRow cs us.toList
  | v, u => constB v u
theorem constB_rep {γ : Gh} {w : World} {v : V} {u : Value} (h : constB v u = true) : RepC γ w v u := by
  unfold constB at h
  split at h
  · obtain rfl := eq_of_beq h; exact .row .bool
  · simp only [Bool.and_eq_true, decide_eq_true_eq, beq_iff_eq] at h
    obtain ⟨rfl, rfl⟩ := h
    exact .row .int
  · simp only [Bool.and_eq_true, decide_eq_true_eq, beq_iff_eq] at h
    obtain ⟨rfl, hl⟩ := h
    exact .row (.str hl)
  · exact .row .nili
  · exact .row .nils
  · exact .nilp
  · exact .nilf
  · cases h
theorem constRow_rep {γ : Gh} {w : World} : ∀ {vs : List V} {us : List Value}, constRow vs us = true → vs.length = us.length ∧ ∀ j, j < vs.length → RepC γ w (vs.getD j .und) (us.getD j undef)
  | [], [], _ => ⟨rfl, fun j hj => absurd hj (by simp)⟩
  | v :: vs, u :: us, h => by
    simp only [constRow, Bool.and_eq_true] at h
    obtain ⟨h1, h2⟩ := constRow_rep (γ := γ) (w := w) h.2
    refine ⟨by simp [h1], fun j hj => ?_⟩
    cases j with
    | zero => exact constB_rep h.1
    | succ j => simpa using h2 j (by simpa using hj)
theorem constV_rep {γ : Gh} {w : World} {v : V} {u : Value} (h : constV v u = true) : RepV γ w v u := by
  unfold constV at h
  split at h
  · rename_i cs us
    obtain ⟨h1, h2⟩ := constRow_rep (γ := γ) (w := w) h
    have := Rep1.agg (us := us.toList) h1 h2
    exact .one (by simpa using this)
  · exact repV_of (constB_rep h)

def cellEq : V → V → Bool
  | .bool a, .bool b => a == b
  | .int k a, .int k' b => decide (k = k') && a == b
  | .str a, .str b => a == b
  | _, _ => false
theorem cellEq_eq {a b : V} (h : cellEq a b = true) : a = b := by
  unfold cellEq at h
  split at h
  · rw [eq_of_beq h]
  · simp only [Bool.and_eq_true, decide_eq_true_eq, beq_iff_eq] at h; rw [h.1, h.2]
  · rw [eq_of_beq h]
  · cases h
def flatEq : List V → List V → Bool
  | [], [] => true
  | a :: r, b :: s => cellEq a b && flatEq r s
  | _, _ => false
theorem flatEq_eq : ∀ {a b : List V}, flatEq a b = true → a = b
  | [], [], _ => rfl
  | a :: r, b :: s, h => by
    simp only [flatEq, Bool.and_eq_true] at h
    rw [cellEq_eq h.1, flatEq_eq h.2]
  | [], b :: s, h => by simp [flatEq] at h
  | a :: r, [], h => by simp [flatEq] at h

def okS (G : List (Nat × List V)) : S → Operand → Bool
  | .t n, .tmp m => n == m
  | .k v, .const c => constV v c
  | .k (.imm r 0), .global g => G.any fun p => p.1 == g && flatEq p.2 r
  | .k (.fn f [] []), .func f' => f == f'
  | _, _ => false
theorem okS_rep {G : List (Nat × List V)} {N : Nat} {γ : Gh} {σ : St} {w : World} {e : Env} {a : Act} {s : S} {x : Operand} (h : okS G s x = true) (hE : RepE γ w e a.tmps) (hI : Inv G N γ σ w) : RepV γ w (src e s) (a.eval x) := by
  unfold okS at h
  split at h
  · obtain rfl := eq_of_beq h
    exact hE _
  · exact constV_rep h
  · simp only [List.any_eq_true, Bool.and_eq_true, beq_iff_eq] at h
    obtain ⟨⟨g, r'⟩, hin, rfl, hr⟩ := h
    obtain rfl := flatEq_eq hr
    exact repV_of (hI.glob _ _ hin)
  · obtain rfl := eq_of_beq h
    exact repV_of (RepC.fn (ua := []) (uc := []) rfl rfl (fun j hj => absurd hj (by simp)) (fun j hj => absurd hj (by simp)))
  · cases h
end Go.Proofs.YticpkkjnajmpoaaGreatDoor.KM
