/- Orders: plain. -/
import Derived.Test.YtlehfgdhebapeaaGreatDoorPc
set_option linter.all false
namespace Go.Proofs.YtlehfgdhebapeaaGreatDoor.KM
open Go
/-- a comparison that is a linear order -/
structure Lin {α : Type} (c : α → α → Int) : Prop where
  zero : ∀ x y, c x y = 0 ↔ x = y
  flip : ∀ x y, c x y < 0 ↔ 0 < c y x
  trans : ∀ x y z, c x y < 0 → c y z < 0 → c x z < 0
theorem ci_lt {x y : Int} : Lib.compareInt x y < 0 ↔ x < y := by
  unfold Lib.compareInt
  split
  · simp [*]
  · split <;> omega
theorem ci_gt {x y : Int} : 0 < Lib.compareInt x y ↔ y < x := by
  unfold Lib.compareInt
  split
  · omega
  · split <;> omega
theorem ci_zero {x y : Int} : Lib.compareInt x y = 0 ↔ x = y := by
  unfold Lib.compareInt
  split
  · omega
  · split <;> omega
theorem lin_int : Lin Lib.compareInt where
  zero _ _ := ci_zero
  flip _ _ := ci_lt.trans ci_gt.symm
  trans _ _ _ h1 h2 := ci_lt.2 (Int.lt_trans (ci_lt.1 h1) (ci_lt.1 h2))
/-- lists, by their first difference; a part ahead of the whole -/
def lexL {α : Type} (c : α → α → Int) : List α → List α → Int
  | [], [] => 0
  | [], _ :: _ => -1
  | _ :: _, [] => 1
  | a :: r, b :: s => if c a b ≠ 0 then c a b else lexL c r s
theorem lin_list {α : Type} {c : α → α → Int} (h : Lin c) : Lin (lexL c) where
  zero := by
    intro x
    induction x with
    | nil => intro y; cases y <;> simp [lexL]
    | cons a r ih =>
      intro y
      cases y with
      | nil => simp [lexL]
      | cons b s =>
        simp only [lexL]
        by_cases hc : c a b = 0
        · have := (h.zero a b).1 hc
          subst this
          simp [hc, ih s]
        · have : a ≠ b := fun e => hc ((h.zero a b).2 e)
          simp [hc, this]
  flip := by
    intro x
    induction x with
    | nil => intro y; cases y <;> simp [lexL]
    | cons a r ih =>
      intro y
      cases y with
      | nil => simp [lexL]
      | cons b s =>
        simp only [lexL]
        by_cases hc : c a b = 0
        · have := (h.zero a b).1 hc
          subst this
          simp [hc, ih s]
        · have hc2 : c b a ≠ 0 := fun e => hc ((h.zero a b).2 ((h.zero b a).1 e).symm)
          simp [hc, hc2, h.flip a b]
  trans := by
    intro x
    induction x with
    | nil =>
      intro y z
      cases y with
      | nil => simp [lexL]
      | cons b s => cases z <;> simp [lexL]
    | cons a r ih =>
      intro y z
      cases y with
      | nil => simp [lexL]
      | cons b s =>
        cases z with
        | nil => simp [lexL]
        | cons d u =>
          simp only [lexL]
          by_cases h1 : c a b = 0
          · have := (h.zero a b).1 h1
            subst this
            by_cases h2 : c a d = 0
            · simp [h1, h2]; exact ih s u
            · simp [h1, h2]
          · by_cases h2 : c b d = 0
            · have := (h.zero b d).1 h2
              subst this
              simp [h1, h2]
              try exact fun h _ => h
            · simp only [ne_eq, h1, h2, not_false_eq_true, if_true]
              intro g1 g2
              have g3 := h.trans a b d g1 g2
              rw [if_pos (by omega)]
              exact g3
def lexP {α β : Type} [DecidableEq α] (c : α → α → Int) (d : β → β → Int) (x y : α × β) : Int := if x.1 ≠ y.1 then c x.1 y.1 else d x.2 y.2
theorem lin_pair {α β : Type} [DecidableEq α] {c : α → α → Int} {d : β → β → Int} (h : Lin c) (g : Lin d) : Lin (lexP c d) where
  zero x y := by
    unfold lexP
    obtain ⟨a, b⟩ := x
    obtain ⟨a', b'⟩ := y
    by_cases e : a = a'
    · subst e; simp [g.zero b b']
    · simp [e, h.zero a a']
  flip x y := by
    unfold lexP
    by_cases e : x.1 = y.1
    · simp [e, g.flip x.2 y.2]
    · have e' : ¬ y.1 = x.1 := fun q => e q.symm
      simp [e, e', h.flip x.1 y.1]
  trans x y z := by
    unfold lexP
    by_cases e : x.1 = y.1
    · by_cases e2 : y.1 = z.1
      · simp [e, e2]; exact g.trans _ _ _
      · simp [e, e2]
    · by_cases e2 : y.1 = z.1
      · have : ¬ x.1 = z.1 := fun q => e (q.trans e2.symm)
        simp only [ne_eq, e, e2, this, not_true_eq_false, not_false_eq_true, if_true, if_false]
        exact fun h _ => h
      · simp only [ne_eq, e, e2, not_false_eq_true, if_true]
        intro h1 h2
        have h3 := h.trans _ _ _ h1 h2
        have : ¬ x.1 = z.1 := fun q => by
          have := (h.zero x.1 z.1).2 q
          omega
        simp [this, h3]
def byteC (a b : UInt8) : Int := if a < b then -1 else if b < a then 1 else 0
theorem lin_byte : Lin byteC where
  zero x y := by
    unfold byteC
    split
    · rename_i h; simp; intro e; subst e; exact UInt8.lt_irrefl _ h
    · split
      · rename_i h; simp; intro e; subst e; exact UInt8.lt_irrefl _ h
      · rename_i h1 h2
        simp
        exact UInt8.le_antisymm (UInt8.not_lt.1 h2) (UInt8.not_lt.1 h1)
  flip x y := by
    unfold byteC
    by_cases h1 : x < y
    · have : ¬ y < x := fun h => UInt8.lt_asymm h1 h
      simp [h1, this]
    · by_cases h2 : y < x <;> simp [h1, h2]
  trans x y z := by
    unfold byteC
    by_cases h1 : x < y
    · by_cases h2 : y < z
      · simp [h1, h2, UInt8.lt_trans h1 h2]
      · by_cases h3 : z < y <;> simp [h1, h2, h3]
    · by_cases h2 : y < x <;> simp [h1, h2]
theorem cb_lex : ∀ a b : List UInt8, Lib.compareBytes a b = lexL byteC a b
  | [], [] => rfl
  | [], _ :: _ => rfl
  | _ :: _, [] => rfl
  | a :: r, b :: s => by
    simp only [Lib.compareBytes, lexL, byteC]
    by_cases h1 : a < b
    · simp [h1]
    · by_cases h2 : b < a
      · simp [h1, h2]
      · simp [h1, h2, cb_lex r s]
theorem lin_bytes : Lin Lib.compareBytes := by
  have : Lib.compareBytes = lexL byteC := by funext a b; exact cb_lex a b
  rw [this]
  exact lin_list lin_byte
theorem lin_key : Lin kcmp := by
  have : kcmp = lexP Lib.compareBytes (lexP Lib.compareBytes Lib.compareInt) := by funext a b; rfl
  rw [this]
  exact lin_pair lin_bytes (lin_pair lin_bytes lin_int)
theorem lcmp_lex : ∀ a b, lcmp a b = lexL kcmp a b
  | [], [] => rfl
  | [], _ :: _ => rfl
  | _ :: _, [] => rfl
  | a :: r, b :: s => by simp only [lcmp, lexL, lcmp_lex r s]
theorem lin_keys : Lin lcmp := by
  have : lcmp = lexL kcmp := by funext a b; exact lcmp_lex a b
  rw [this]
  exact lin_list lin_key
/-- what is compared of an entry -/
def Ent.ks (x : Ent) : Int × List Key := (x.kind, x.sites)
def pcmp : Int × List Key → Int × List Key → Int := lexP Lib.compareInt lcmp
theorem lin_p : Lin pcmp := lin_pair lin_int lin_keys
/-- strictly ascending -/
def Asc (l : List Ent) : Prop := l.Pairwise fun x y => ecmp x y < 0
end Go.Proofs.YtlehfgdhebapeaaGreatDoor.KM
