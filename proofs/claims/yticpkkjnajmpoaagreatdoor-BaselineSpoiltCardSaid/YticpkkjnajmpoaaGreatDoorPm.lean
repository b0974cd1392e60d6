/- Lists of entries that are merged: plain. -/
import Derived.Test.YticpkkjnajmpoaaGreatDoorPd
set_option linter.all false
namespace Go.Proofs.YticpkkjnajmpoaaGreatDoor.KM
open Go
/-- the elements of two ascending lists in their common order -/
def mergeE : List Ent → List Ent → List (Option Ent × Option Ent)
  | [], b => b.map fun y => (none, some y)
  | x :: a, [] => (x :: a).map fun x => (some x, none)
  | x :: a, y :: b => if ecmp x y < 0 then (some x, none) :: mergeE a (y :: b) else if ecmp x y = 0 then (some x, some y) :: mergeE a b else (none, some y) :: mergeE (x :: a) b
termination_by a b => a.length + b.length
/-- what is compared of a pair -/
def pk : Option Ent × Option Ent → Int × List Key
  | (some x, _) => x.ks
  | (none, some y) => y.ks
  | (none, none) => (0, [])
/-- where a pair comes from -/
def From (a b : List Ent) (p : Option Ent × Option Ent) : Prop :=
  (∃ x ∈ a, p = (some x, none) ∧ ∀ y ∈ b, y.ks ≠ x.ks) ∨ (∃ y ∈ b, p = (none, some y) ∧ ∀ x ∈ a, x.ks ≠ y.ks) ∨ ∃ x ∈ a, ∃ y ∈ b, p = (some x, some y) ∧ x.ks = y.ks
theorem asc_ne {x y : Ent} (h : ecmp x y < 0) : x.ks ≠ y.ks := fun e => by
  have := (lin_p.zero x.ks y.ks).2 e
  rw [ecmp_p] at h
  omega
theorem asc_tr {x y z : Ent} (h1 : ecmp x y < 0) (h2 : ecmp y z < 0) : ecmp x z < 0 := lin_p.trans x.ks y.ks z.ks h1 h2
theorem asc_kl {x y z : Ent} (h1 : x.ks = y.ks) (h2 : ecmp y z < 0) : ecmp x z < 0 := by rw [ecmp_p] at h2 ⊢; rw [h1]; exact h2
theorem merge_mem : ∀ (a b : List Ent), Asc a → Asc b → ∀ p ∈ mergeE a b, From a b p
  | [], b, _, _, p, hp => by
    simp only [mergeE, List.mem_map] at hp
    obtain ⟨y, hy, rfl⟩ := hp
    exact .inr (.inl ⟨y, hy, rfl, fun x hx => by cases hx⟩)
  | x :: a, [], _, _, p, hp => by
    simp only [mergeE, List.mem_map] at hp
    obtain ⟨y, hy, rfl⟩ := hp
    exact .inl ⟨y, hy, rfl, fun x hx => by cases hx⟩
  | x :: a, y :: b, ha, hb, p, hp => by
    have ha' := List.pairwise_cons.1 ha
    have hb' := List.pairwise_cons.1 hb
    rw [mergeE] at hp
    split at hp
    · rename_i h
      have hxb : ∀ z ∈ y :: b, ecmp x z < 0 := fun z hz => by
        rcases List.mem_cons.1 hz with rfl | hz
        · exact h
        · exact asc_tr h (hb'.1 z hz)
      rcases List.mem_cons.1 hp with rfl | hp
      · exact .inl ⟨x, List.mem_cons_self, rfl, fun z hz => (asc_ne (hxb z hz)).symm⟩
      · rcases merge_mem a (y :: b) ha'.2 hb p hp with ⟨z, hz, e, h1⟩ | ⟨z, hz, e, h1⟩ | ⟨z, hz, u, hu, e, h1⟩
        · exact .inl ⟨z, List.mem_cons_of_mem _ hz, e, h1⟩
        · refine .inr (.inl ⟨z, hz, e, fun q hq => ?_⟩)
          rcases List.mem_cons.1 hq with rfl | hq
          · exact asc_ne (hxb z hz)
          · exact h1 q hq
        · exact .inr (.inr ⟨z, List.mem_cons_of_mem _ hz, u, hu, e, h1⟩)
    · rename_i h
      split at hp
      · rename_i h0
        have hk : x.ks = y.ks := (lin_p.zero _ _).1 h0
        rcases List.mem_cons.1 hp with rfl | hp
        · exact .inr (.inr ⟨x, List.mem_cons_self, y, List.mem_cons_self, rfl, hk⟩)
        · rcases merge_mem a b ha'.2 hb'.2 p hp with ⟨z, hz, e, h1⟩ | ⟨z, hz, e, h1⟩ | ⟨z, hz, u, hu, e, h1⟩
          · refine .inl ⟨z, List.mem_cons_of_mem _ hz, e, fun q hq => ?_⟩
            rcases List.mem_cons.1 hq with rfl | hq
            · rw [← hk]; exact asc_ne (ha'.1 z hz)
            · exact h1 q hq
          · refine .inr (.inl ⟨z, List.mem_cons_of_mem _ hz, e, fun q hq => ?_⟩)
            rcases List.mem_cons.1 hq with rfl | hq
            · rw [hk]; exact asc_ne (hb'.1 z hz)
            · exact h1 q hq
          · exact .inr (.inr ⟨z, List.mem_cons_of_mem _ hz, u, List.mem_cons_of_mem _ hu, e, h1⟩)
      · rename_i h0
        have hlt : ecmp y x < 0 := by
          rcases lin_p.tri x.ks y.ks with h1 | h1 | h1
          · exact absurd h1 h
          · exact absurd ((lin_p.zero _ _).2 h1) h0
          · exact h1
        have hya : ∀ z ∈ x :: a, ecmp y z < 0 := fun z hz => by
          rcases List.mem_cons.1 hz with rfl | hz
          · exact hlt
          · exact asc_tr hlt (ha'.1 z hz)
        rcases List.mem_cons.1 hp with rfl | hp
        · exact .inr (.inl ⟨y, List.mem_cons_self, rfl, fun z hz => (asc_ne (hya z hz)).symm⟩)
        · rcases merge_mem (x :: a) b ha hb'.2 p hp with ⟨z, hz, e, h1⟩ | ⟨z, hz, e, h1⟩ | ⟨z, hz, u, hu, e, h1⟩
          · refine .inl ⟨z, hz, e, fun q hq => ?_⟩
            rcases List.mem_cons.1 hq with rfl | hq
            · exact asc_ne (hya z hz)
            · exact h1 q hq
          · exact .inr (.inl ⟨z, List.mem_cons_of_mem _ hz, e, h1⟩)
          · exact .inr (.inr ⟨z, hz, u, List.mem_cons_of_mem _ hu, e, h1⟩)
termination_by a b => a.length + b.length
theorem merge_l : ∀ (a b : List Ent), ∀ x ∈ a, ∃ p ∈ mergeE a b, p.1 = some x
  | [], b, x, hx => by cases hx
  | x :: a, [], z, hz => by
    refine ⟨(some z, none), ?_, rfl⟩
    simp only [mergeE, List.mem_map]
    exact ⟨z, hz, rfl⟩
  | x :: a, y :: b, z, hz => by
    rw [mergeE]
    split
    · rcases List.mem_cons.1 hz with rfl | hz
      · exact ⟨_, List.mem_cons_self, rfl⟩
      · obtain ⟨p, hp, e⟩ := merge_l a (y :: b) z hz
        exact ⟨p, List.mem_cons_of_mem _ hp, e⟩
    · split
      · rcases List.mem_cons.1 hz with rfl | hz
        · exact ⟨_, List.mem_cons_self, rfl⟩
        · obtain ⟨p, hp, e⟩ := merge_l a b z hz
          exact ⟨p, List.mem_cons_of_mem _ hp, e⟩
      · obtain ⟨p, hp, e⟩ := merge_l (x :: a) b z hz
        exact ⟨p, List.mem_cons_of_mem _ hp, e⟩
termination_by a b => a.length + b.length
theorem merge_r : ∀ (a b : List Ent), ∀ y ∈ b, ∃ p ∈ mergeE a b, p.2 = some y
  | [], b, y, hy => by
    refine ⟨(none, some y), ?_, rfl⟩
    simp only [mergeE, List.mem_map]
    exact ⟨y, hy, rfl⟩
  | x :: a, [], z, hz => by cases hz
  | x :: a, y :: b, z, hz => by
    rw [mergeE]
    split
    · obtain ⟨p, hp, e⟩ := merge_r a (y :: b) z hz
      exact ⟨p, List.mem_cons_of_mem _ hp, e⟩
    · split
      · rcases List.mem_cons.1 hz with rfl | hz
        · exact ⟨_, List.mem_cons_self, rfl⟩
        · obtain ⟨p, hp, e⟩ := merge_r a b z hz
          exact ⟨p, List.mem_cons_of_mem _ hp, e⟩
      · rcases List.mem_cons.1 hz with rfl | hz
        · exact ⟨_, List.mem_cons_self, rfl⟩
        · obtain ⟨p, hp, e⟩ := merge_r (x :: a) b z hz
          exact ⟨p, List.mem_cons_of_mem _ hp, e⟩
termination_by a b => a.length + b.length
theorem from_pk {a b : List Ent} {p : Option Ent × Option Ent} (h : From a b p) : (∃ x ∈ a, pk p = x.ks) ∨ ∃ y ∈ b, pk p = y.ks := by
  rcases h with ⟨x, hx, rfl, _⟩ | ⟨x, hx, rfl, _⟩ | ⟨x, hx, y, hy, rfl, _⟩
  · exact .inl ⟨x, hx, rfl⟩
  · exact .inr ⟨x, hx, rfl⟩
  · exact .inl ⟨x, hx, rfl⟩
theorem merge_asc : ∀ (a b : List Ent), Asc a → Asc b → (mergeE a b).Pairwise fun p q => pcmp (pk p) (pk q) < 0
  | [], b, _, hb => by
    simp only [mergeE]
    rw [List.pairwise_map]
    exact hb
  | x :: a, [], ha, _ => by
    simp only [mergeE]
    rw [List.pairwise_map]
    exact ha
  | x :: a, y :: b, ha, hb => by
    have ha' := List.pairwise_cons.1 ha
    have hb' := List.pairwise_cons.1 hb
    rw [mergeE]
    split
    · rename_i h
      refine List.pairwise_cons.2 ⟨fun p hp => ?_, merge_asc a (y :: b) ha'.2 hb⟩
      show pcmp x.ks (pk p) < 0
      rcases from_pk (merge_mem a (y :: b) ha'.2 hb p hp) with ⟨z, hz, e⟩ | ⟨z, hz, e⟩ <;> rw [e]
      · exact ha'.1 z hz
      · rcases List.mem_cons.1 hz with rfl | hz
        · exact h
        · exact asc_tr h (hb'.1 z hz)
    · rename_i h
      split
      · rename_i h0
        have hk : x.ks = y.ks := (lin_p.zero _ _).1 h0
        refine List.pairwise_cons.2 ⟨fun p hp => ?_, merge_asc a b ha'.2 hb'.2⟩
        show pcmp x.ks (pk p) < 0
        rcases from_pk (merge_mem a b ha'.2 hb'.2 p hp) with ⟨z, hz, e⟩ | ⟨z, hz, e⟩ <;> rw [e]
        · exact ha'.1 z hz
        · exact asc_kl hk (hb'.1 z hz)
      · rename_i h0
        have hlt : ecmp y x < 0 := by
          rcases lin_p.tri x.ks y.ks with h1 | h1 | h1
          · exact absurd h1 h
          · exact absurd ((lin_p.zero _ _).2 h1) h0
          · exact h1
        refine List.pairwise_cons.2 ⟨fun p hp => ?_, merge_asc (x :: a) b ha hb'.2⟩
        show pcmp y.ks (pk p) < 0
        rcases from_pk (merge_mem (x :: a) b ha hb'.2 p hp) with ⟨z, hz, e⟩ | ⟨z, hz, e⟩ <;> rw [e]
        · rcases List.mem_cons.1 hz with rfl | hz
          · exact hlt
          · exact asc_tr hlt (ha'.1 z hz)
        · exact hb'.1 z hz
termination_by a b => a.length + b.length
/-- strictly ascending lists with the same elements are one -/
theorem asc_ext {α : Type} {k : α → Int × List Key} : ∀ {l m : List α}, (l.Pairwise fun x y => pcmp (k x) (k y) < 0) → (m.Pairwise fun x y => pcmp (k x) (k y) < 0) → (∀ x, x ∈ l ↔ x ∈ m) → l = m
  | [], [], _, _, _ => rfl
  | [], y :: m, _, _, h => by have := (h y).2 List.mem_cons_self; cases this
  | x :: l, [], _, _, h => by have := (h x).1 List.mem_cons_self; cases this
  | x :: l, y :: m, hl, hm, h => by
    have hl' := List.pairwise_cons.1 hl
    have hm' := List.pairwise_cons.1 hm
    have e : x = y := by
      rcases List.mem_cons.1 ((h x).1 List.mem_cons_self) with e | h1
      · exact e
      · rcases List.mem_cons.1 ((h y).2 List.mem_cons_self) with e | h2
        · exact e.symm
        · exact absurd (hm'.1 x h1) (lin_p.asym (hl'.1 y h2))
    subst e
    have irr : ∀ z, ¬ pcmp (k z) (k z) < 0 := fun z hz => lin_p.asym hz hz
    congr 1
    refine asc_ext hl'.2 hm'.2 fun z => ?_
    constructor
    · intro hz
      rcases List.mem_cons.1 ((h z).1 (List.mem_cons_of_mem _ hz)) with rfl | h1
      · exact absurd (hl'.1 z hz) (irr z)
      · exact h1
    · intro hz
      rcases List.mem_cons.1 ((h z).2 (List.mem_cons_of_mem _ hz)) with rfl | h1
      · exact absurd (hm'.1 z hz) (irr z)
      · exact h1
/-! entries that are added one by one -/
theorem insE_iff {e : Ent} {l : List Ent} (h : Asc l) (x : Ent) : x ∈ insE e l ↔ x ∈ l ∨ (x = e ∧ ∀ z ∈ l, z.ks ≠ e.ks) := by
  unfold insE
  split
  · rename_i ht
    obtain ⟨z, hz, hk⟩ := (there_spec h).1 ht
    exact ⟨.inl, fun hx => hx.elim id fun hx => absurd hk (hx.2 z hz)⟩
  · rename_i ht
    have hn : ∀ z ∈ l, z.ks ≠ e.ks := fun z hz hk => ht ((there_spec h).2 ⟨z, hz, hk⟩)
    have hm : x ∈ l ↔ x ∈ l.take (placeE e l) ∨ x ∈ l.drop (placeE e l) := by rw [← List.mem_append, List.take_append_drop]
    rw [hm]
    simp only [List.mem_append, List.mem_cons]
    constructor
    · rintro (h | h | h)
      · exact .inl (.inl h)
      · exact .inr ⟨h, hn⟩
      · exact .inl (.inr h)
    · rintro ((h | h) | ⟨h, _⟩)
      · exact .inl h
      · exact .inr (.inr h)
      · exact .inr (.inl h)
theorem fold_asc {f : Ent → Ent} (hf : ∀ e, (f e).ks = e.ks) : ∀ (m s : List Ent), Asc s → Asc m → Asc (m.foldl (fun s e => insE (f e) s) s) ∧ ∀ x, x ∈ m.foldl (fun s e => insE (f e) s) s ↔ x ∈ s ∨ ∃ y ∈ m, x = f y ∧ ∀ z ∈ s, z.ks ≠ y.ks
  | [], s, hs, _ => ⟨hs, fun x => by simp⟩
  | y :: m, s, hs, hm => by
    have hm' := List.pairwise_cons.1 hm
    obtain ⟨h1, h2⟩ := fold_asc hf m (insE (f y) s) (insE_asc hs) hm'.2
    refine ⟨h1, fun x => ?_⟩
    rw [List.foldl_cons, h2 x, insE_iff hs]
    constructor
    · rintro ((h | ⟨rfl, h⟩) | ⟨z, hz, rfl, h⟩)
      · exact .inl h
      · exact .inr ⟨y, List.mem_cons_self, rfl, fun z hz => by have := h z hz; rwa [hf] at this⟩
      · exact .inr ⟨z, List.mem_cons_of_mem _ hz, rfl, fun q hq => h q ((insE_iff hs q).2 (.inl hq))⟩
    · rintro (h | ⟨z, hz, rfl, h⟩)
      · exact .inl (.inl h)
      · rcases List.mem_cons.1 hz with rfl | hz
        · exact .inl (.inr ⟨rfl, fun q hq => by rw [hf]; exact h q hq⟩)
        · refine .inr ⟨z, hz, rfl, fun q hq => ?_⟩
          rcases (insE_iff hs q).1 hq with hq | ⟨rfl, _⟩
          · exact h q hq
          · rw [hf]; exact asc_ne (hm'.1 z hz)
/-- the element that is there -/
theorem there_at {e : Ent} {l : List Ent} (h : Asc l) {x : Ent} (hx : x ∈ l) (hk : x.ks = e.ks) : thereE e l = true ∧ l[placeE e l]? = some x := by
  have ht := (there_spec h).2 ⟨x, hx, hk⟩
  refine ⟨ht, ?_⟩
  unfold thereE at ht
  cases hy : l[placeE e l]? with
  | none => rw [hy] at ht; cases ht
  | some y =>
    rw [hy] at ht
    have hyk : y.ks = e.ks := (lin_p.zero _ _).1 (eq_of_beq ht)
    have hym := List.mem_of_getElem? hy
    congr 1
    obtain ⟨i, hi, rfl⟩ := List.getElem_of_mem hx
    obtain ⟨j, hj, rfl⟩ := List.getElem_of_mem hym
    have hpw := List.pairwise_iff_getElem.1 h
    rcases Nat.lt_trichotomy i j with h1 | h1 | h1
    · exact absurd (hk.trans hyk.symm) (asc_ne (hpw i j hi hj h1))
    · subst h1; rfl
    · exact absurd (hyk.trans hk.symm) (asc_ne (hpw j i hj hi h1))
theorem there_no {e : Ent} {l : List Ent} (h : Asc l) (hn : ∀ x ∈ l, x.ks ≠ e.ks) : thereE e l = false := by
  rw [← Bool.not_eq_true]
  intro ht
  obtain ⟨x, hx, hk⟩ := (there_spec h).1 ht
  exact hn x hx hk
/-! changes -/
def chg : Option Ent × Option Ent → Int × Ent
  | (some x, none) => (4, x.own)
  | (some x, some _) => (if x.missed = 0 then 2 else 3, x.own)
  | (none, some y) => (1, y.own)
  | (none, none) => (0, ⟨0, [], 0, 0, true, 0⟩)
/-! a further run -/
def upd : Option Ent × Option Ent → Option Ent
  | (some x, none) => if x.missed + 1 < 8 then some { x.own with missed := x.missed + 1 } else none
  | (some x, some _) => some { x.own with seen := min (x.seen + 1) 1073741824, missed := 0 }
  | (none, some y) => some { y.own with seen := 1, missed := 0 }
  | (none, none) => none
def updL (b now : List Ent) : List Ent := (mergeE b now).filterMap upd
def upd1 (now : List Ent) (e : Ent) : Option Ent :=
  if thereE e now then some { e.own with seen := min (e.seen + 1) 1073741824, missed := 0 } else if e.missed + 1 < 8 then some { e.own with missed := e.missed + 1 } else none
def new1 (e : Ent) : Ent := { e.own with seen := 1, missed := 0 }
def updR (b now : List Ent) : List Ent := now.foldl (fun s e => insE (new1 e) s) (b.filterMap (upd1 now))
theorem upd1_ks {now : List Ent} {e x : Ent} (h : upd1 now e = some x) : x.ks = e.ks := by
  unfold upd1 at h
  split at h
  · cases h; rfl
  · split at h
    · cases h; rfl
    · cases h
theorem upd_pk {p : Option Ent × Option Ent} {x : Ent} (h : upd p = some x) : x.ks = pk p := by
  unfold upd at h
  split at h
  · split at h
    · cases h; rfl
    · cases h
  · cases h; rfl
  · cases h; rfl
  · cases h
theorem updL_asc {b now : List Ent} (hb : Asc b) (hn : Asc now) : Asc (updL b now) := by
  unfold updL Asc
  rw [List.pairwise_filterMap]
  refine (merge_asc b now hb hn).imp fun {p q} h x hx y hy => ?_
  rw [ecmp_p, upd_pk hx, upd_pk hy]
  exact h
theorem update_eq {b now : List Ent} (hb : Asc b) (hn : Asc now) : updR b now = updL b now := by
  have hb1 : Asc (b.filterMap (upd1 now)) := by
    unfold Asc
    rw [List.pairwise_filterMap]
    refine List.Pairwise.imp (fun {p q} h x hx y hy => ?_) hb
    rw [ecmp_p, upd1_ks hx, upd1_ks hy]
    exact h
  obtain ⟨h1, h2⟩ := fold_asc (f := new1) (fun _ => rfl) now (b.filterMap (upd1 now)) hb1 hn
  refine asc_ext (k := Ent.ks) h1 (updL_asc hb hn) fun x => ?_
  unfold updR updL
  rw [h2 x, List.mem_filterMap, List.mem_filterMap]
  constructor
  · rintro (⟨e, he, hu⟩ | ⟨y, hy, rfl, h⟩)
    · obtain ⟨p, hp, e1⟩ := merge_l b now e he
      refine ⟨p, hp, ?_⟩
      rcases merge_mem b now hb hn p hp with ⟨z, hz, rfl, hz2⟩ | ⟨z, hz, rfl, _⟩ | ⟨z, hz, u, hu2, rfl, hk⟩
      · simp only [Option.some.injEq] at e1; subst e1
        unfold upd1 at hu
        rw [there_no hn hz2] at hu
        simpa [upd] using hu
      · cases e1
      · simp only [Option.some.injEq] at e1; subst e1
        unfold upd1 at hu
        rw [(there_at hn hu2 (e := z) hk.symm).1] at hu
        simpa [upd] using hu
    · obtain ⟨p, hp, e1⟩ := merge_r b now y hy
      refine ⟨p, hp, ?_⟩
      rcases merge_mem b now hb hn p hp with ⟨z, hz, rfl, hz2⟩ | ⟨z, hz, rfl, _⟩ | ⟨z, hz, u, hu2, rfl, hk⟩
      · cases e1
      · simp only [Option.some.injEq] at e1; subst e1; rfl
      · simp only [Option.some.injEq] at e1
        subst e1
        exfalso
        have h3 : upd1 now z = some { z.own with seen := min (z.seen + 1) 1073741824, missed := 0 } := by
          unfold upd1
          rw [(there_at hn hu2 (e := z) hk.symm).1]
          rfl
        exact h _ (List.mem_filterMap.2 ⟨z, hz, h3⟩) hk
  · rintro ⟨p, hp, hu⟩
    rcases merge_mem b now hb hn p hp with ⟨z, hz, rfl, hz2⟩ | ⟨z, hz, rfl, hz2⟩ | ⟨z, hz, u, hu2, rfl, hk⟩
    · refine .inl ⟨z, hz, ?_⟩
      unfold upd1
      rw [there_no hn hz2]
      simpa [upd] using hu
    · cases hu
      refine .inr ⟨z, hz, rfl, fun q hq => ?_⟩
      obtain ⟨e, he, hue⟩ := List.mem_filterMap.1 hq
      rw [upd1_ks hue]
      exact hz2 e he
    · refine .inl ⟨z, hz, ?_⟩
      unfold upd1
      rw [(there_at hn hu2 (e := z) hk.symm).1]
      simpa [upd] using hu
end Go.Proofs.YticpkkjnajmpoaaGreatDoor.KM
