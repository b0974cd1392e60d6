/- Which values are baselines: plain. -/
import Derived.Test.YtlehfgdhebapeaaGreatDoorPe
set_option linter.all false
namespace Go.Proofs.YtlehfgdhebapeaaGreatDoor.KM
open Go
theorem ents_iad (x : Ent) (m : Nat) (i : V) : iadV m x.sl i = (atI (x.sites.map krow) i).bind fun r => if r.length = m then some (.imm r 0) else none := sl_iad ..
def textB (l : List UInt8) : Bool := decide (1 ≤ l.length) && decide (l.length ≤ 1000) && l.all fun c => decide (32 ≤ c.toNat) && decide (c.toNat ≤ 126)
def keyB (k : Key) : Bool := isNameE k.1 && textB k.2.1 && decide (0 ≤ k.2.2) && decide (k.2.2 < 60)
def kindB (k : Int) (n : Nat) : Bool := ((k == 1 || k == 3) && n == 2) || (k == 2 && decide (2 ≤ n) && decide (n ≤ 4)) || (k == 4 && n == 4)
def numB (e : Ent) : Bool := decide (1 ≤ e.seen) && decide (e.seen ≤ 1073741824) && decide (0 ≤ e.missed) && decide (e.missed ≤ 7)
def entB (e : Ent) : Bool := kindB e.kind e.sites.length && e.sites.all keyB && numB e
/-- the entry at i may follow -/
def okAt (l : List Ent) (i : Nat) : Bool := match l[i]? with
  | some x => entB x && (match i with
    | 0 => true
    | j + 1 => match l[j]? with
      | some p => decide (ecmp p x < 0)
      | none => false)
  | none => false
def validL (l : List Ent) : Bool := (List.range l.length).all (okAt l)
def validB (n : Int) (l : List Ent) : Bool := decide (0 ≤ n) && decide (n ≤ 1073741824) && decide (l.length ≤ 64) && validL l
theorem validL_f {l : List Ent} {i : Nat} (hi : i < l.length) (h : okAt l i = false) : validL l = false := by
  unfold validL
  rw [← Bool.not_eq_true]
  intro hall
  have := List.all_eq_true.1 hall i (List.mem_range.2 hi)
  rw [h] at this
  cases this
theorem validL_t {l : List Ent} (h : ∀ i, i < l.length → okAt l i = true) : validL l = true := by
  unfold validL
  rw [List.all_eq_true]
  exact fun i hi => h i (List.mem_range.1 hi)
theorem validL_iff {l : List Ent} : validL l = true ↔ ∀ i, i < l.length → okAt l i = true := ⟨fun h i hi => by
  unfold validL at h
  exact List.all_eq_true.1 h i (List.mem_range.2 hi), validL_t⟩
theorem okAt_ent {l : List Ent} {i : Nat} {x : Ent} (hx : l[i]? = some x) (h : okAt l i = true) : entB x = true := by
  unfold okAt at h
  rw [hx] at h
  simp only [Bool.and_eq_true] at h
  exact h.1
theorem okAt_lt {l : List Ent} {i : Nat} {p x : Ent} (hp : l[i]? = some p) (hx : l[i + 1]? = some x) (h : okAt l (i + 1) = true) : ecmp p x < 0 := by
  unfold okAt at h
  rw [hx] at h
  simp only [hp, Bool.and_eq_true, decide_eq_true_eq] at h
  exact h.2
theorem asc_of {l : List Ent} (h : ∀ i p x, l[i]? = some p → l[i + 1]? = some x → ecmp p x < 0) : Asc l := by
  unfold Asc
  rw [List.pairwise_iff_getElem]
  intro i j hi hj hij
  induction j with
  | zero => omega
  | succ j ih =>
    have h1 : ecmp l[j] l[j + 1] < 0 := h j l[j] l[j + 1] (List.getElem?_eq_getElem (by omega)) (List.getElem?_eq_getElem hj)
    by_cases hij2 : i = j
    · subst hij2; exact h1
    · exact lin_p.trans l[i].ks l[j].ks l[j + 1].ks (ih (by omega) (by omega)) h1
theorem validL_asc {l : List Ent} (h : validL l = true) : Asc l :=
  asc_of fun i p x hp hx => okAt_lt hp hx (validL_iff.1 h (i + 1) (List.getElem?_eq_some_iff.1 hx).1)
theorem validL_ent {l : List Ent} (h : validL l = true) : ∀ x ∈ l, entB x = true := fun x hx => by
  obtain ⟨i, hi, rfl⟩ := List.getElem_of_mem hx
  exact okAt_ent (List.getElem?_eq_getElem hi) (validL_iff.1 h i hi)
theorem kindB_le {k : Int} {n : Nat} (h : kindB k n = true) : n ≤ 4 ∧ 2 ≤ n := by
  unfold kindB at h
  simp only [Bool.or_eq_true, Bool.and_eq_true, beq_iff_eq, decide_eq_true_eq] at h
  omega
theorem entB_len {x : Ent} (h : entB x = true) : x.sites.length ≤ 4 ∧ 2 ≤ x.sites.length := by
  unfold entB at h
  simp only [Bool.and_eq_true] at h
  exact kindB_le h.1.1
end Go.Proofs.YtlehfgdhebapeaaGreatDoor.KM
