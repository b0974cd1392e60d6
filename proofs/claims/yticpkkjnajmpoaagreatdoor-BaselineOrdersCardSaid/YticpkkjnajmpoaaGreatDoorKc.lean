/- The changes of memory that the plain machine makes, and that it still holds what the state says (second form). -/
import Derived.Test.YticpkkjnajmpoaaGreatDoorKb
import Derived.Laws.AppendOwn
import Derived.WalkKit
set_option linter.all false
namespace Go.Proofs.YticpkkjnajmpoaaGreatDoor.KM
open Go Go.RowKit
variable {G : List (Nat × List V)} {N : Nat} {γ : Gh} {σ : St} {w w' : World}

theorem getD_of_get? {α : Type} {l : List α} {i : Nat} {x d : α} (h : l[i]? = some x) : l.getD i d = x := by simp [List.getD_eq_getElem?_getD, h]
theorem Inv.at (h : Inv G N γ σ w) {i : Nat} {p : Nat × Nat} (hp : γ.O[i]? = some p) : ∃ ob, σ[i]? = some ob ∧ ObOk γ w ob p := by
  have hi : i < σ.length := by have := h.len; have := (List.getElem?_eq_some_iff.1 hp).1; omega
  exact ⟨σ[i], List.getElem?_eq_getElem hi, h.obj i _ p (List.getElem?_eq_getElem hi) hp⟩
theorem Inv.of (h : Inv G N γ σ w) {i : Nat} {ob : Ob} (ho : σ[i]? = some ob) : ∃ p, γ.O[i]? = some p ∧ ObOk γ w ob p := by
  have hi : i < γ.O.length := by have := h.len; have := (List.getElem?_eq_some_iff.1 ho).1; omega
  exact ⟨γ.O[i], List.getElem?_eq_getElem hi, h.obj i _ _ ho (List.getElem?_eq_getElem hi)⟩
theorem ObOk.lt {ob : Ob} {p : Nat × Nat} (h : ObOk γ w ob p) : p.1 < w.heap.size := by
  cases ob with
  | row cs e g z =>
    obtain ⟨_, _, _, us, lo, hi, h1, _⟩ := h
    exact (Array.getElem?_eq_some_iff.1 h1).1
  | map kvs =>
    obtain ⟨_, _, es, h1, _⟩ := h
    exact (Array.getElem?_eq_some_iff.1 h1).1
  | dead => exact h
theorem Inv.oblt (h : Inv G N γ σ w) {i : Nat} {p : Nat × Nat} (hp : γ.O[i]? = some p) : p.1 < w.heap.size := by
  obtain ⟨ob, _, h2⟩ := h.at hp
  exact h2.lt
theorem cell_same {w w' : World} {b : Nat} (h : w'.heap[b]? = w.heap[b]?) (o : Nat) : w'.cell? ⟨b, o, none⟩ = w.cell? ⟨b, o, none⟩ := World.cell?_of_block (a := ⟨b, o, none⟩) h
theorem size_same {w w' : World} {b : Nat} (h : w'.heap[b]? = w.heap[b]?) : sizeOf? w' b = sizeOf? w b := by unfold sizeOf?; rw [h]
theorem nodup_get {l : List Nat} (h : l.Nodup) {i j a : Nat} (hi : l[i]? = some a) (hj : l[j]? = some a) : i = j := by
  obtain ⟨h1, e1⟩ := List.getElem?_eq_some_iff.1 hi
  obtain ⟨h2, e2⟩ := List.getElem?_eq_some_iff.1 hj
  have hp := List.pairwise_iff_getElem.1 h
  rcases Nat.lt_trichotomy i j with hlt | rfl | hlt
  · exact absurd (e1.trans e2.symm) (hp i j h1 h2 hlt)
  · rfl
  · exact absurd (e2.trans e1.symm) (hp j i h2 h1 hlt)
theorem Inv.ne (h : Inv G N γ σ w) {i j : Nat} {p q : Nat × Nat} (hp : γ.O[i]? = some p) (hq : γ.O[j]? = some q) (hij : i ≠ j) : p.1 ≠ q.1 := fun e =>
  hij (nodup_get h.nd (i := i) (j := j) (a := p.1) (by simp [hp]) (by simp [hq, e]))

/-- an object stays as it is while its block and what is settled stay -/
theorem ObOk.keep {γ' : Gh} {ob : Ob} {p : Nat × Nat} (h : ObOk γ w ob p) (hx : Ext γ w γ' w') (hk : γ'.κ p.1 = γ.κ p.1) (hh : w'.heap[p.1]? = w.heap[p.1]?) : ObOk γ' w' ob p := by
  cases ob with
  | row cs e g z =>
    obtain ⟨h1, h2, h3, us, lo, hi, h4, h5, h6, h7⟩ := h
    exact ⟨h1, hk.trans h2, h3, us, lo, hi, hh.trans h4, h5, h6, fun j hj => (h7 j hj).ext hx⟩
  | map kvs =>
    obtain ⟨h1, h2, es, h3, h4, h5⟩ := h
    refine ⟨h1, hk.trans h2, es, hh.trans h3, h4, fun i k v hi => ?_⟩
    obtain ⟨en, a1, a2, a3, a4, a5, a6⟩ := h5 i k v hi
    exact ⟨en, a1, a2, a3, a4, a5, a6.ext hx⟩
  | dead =>
    have h : p.1 < w.heap.size := h
    rw [Array.getElem?_eq_getElem h] at hh
    exact (Array.getElem?_eq_some_iff.1 hh).1

/-- old blocks stay, new blocks may be settled -/
theorem Inv.more {κ' : Kap} (h : Inv G N γ σ w) (hb : ∀ b, b < w.heap.size → w'.heap[b]? = w.heap[b]?) (hs : w.heap.size ≤ w'.heap.size) (hk : ∀ b, b < w.heap.size → κ' b = γ.κ b) (hd : ∀ b k, κ' b = some k → b < w'.heap.size) :
    Inv G N ⟨κ', γ.O⟩ σ w' ∧ Ext γ w ⟨κ', γ.O⟩ w' := by
  have hx : Ext γ w ⟨κ', γ.O⟩ w' := {
    kap := fun b k hk' => ⟨k, by show κ' b = _; rw [hk b (h.dom b k hk')]; exact hk', Nat.le_refl _⟩
    cell := fun b k o hk' _ => cell_same (hb b (h.dom b k hk')) o
    obj := fun i blk g hi => ⟨blk, g, hi, Nat.le_refl _, fun _ => ⟨rfl, size_same (hb blk (h.oblt hi))⟩⟩ }
  exact ⟨⟨Nat.le_trans h.base hs, h.len, h.nd, h.low, fun i ob p h1 h2 => (h.obj i ob p h1 h2).keep hx (hk _ (h.oblt h2)) (hb _ (h.oblt h2)), hd, fun g r hg => (h.glob g r hg).ext hx, fun g r hg => ⟨(h.gsz g r hg).1, (size_same (hb g (by have := (h.gsz g r hg).1; have := h.base; omega))).trans (h.gsz g r hg).2⟩⟩, hx⟩

def kset (κ : Kap) (b k : Nat) : Kap := fun c => if c = b then some k else κ c
theorem kset_self (κ : Kap) (b k : Nat) : kset κ b k b = some k := by simp [kset]
theorem kset_other (κ : Kap) {b c : Nat} (k : Nat) (h : c ≠ b) : kset κ b k c = κ c := by simp [kset, h]
theorem kset_dom {κ : Kap} {b k n : Nat} (h : ∀ c k, κ c = some k → c < n) (hb : b < n) : ∀ c k', kset κ b k c = some k' → c < n := fun c k' hc => by
  unfold kset at hc
  split at hc
  · omega
  · exact h c k' hc

/-- a new row, settled -/
theorem Inv.row (h : Inv G N γ σ w) (us : Array Value) (e : TypeId) :
    Inv G N ⟨kset γ.κ w.heap.size us.size, γ.O⟩ σ (w.alloc (.cells us e)) ∧ Ext γ w ⟨kset γ.κ w.heap.size us.size, γ.O⟩ (w.alloc (.cells us e)) :=
  h.more (fun b hb => Below.heap_alloc _ _ _ hb) (by simp) (fun b hb => kset_other _ _ (by omega)) (kset_dom (fun b k hk => by have := h.dom b k hk; simp; omega) (by simp))
theorem Inv.drew (h : Inv G N γ σ w) : Inv G N γ σ w.drew ∧ Ext γ w γ w.drew :=
  h.more (κ' := γ.κ) (fun _ _ => rfl) (Nat.le_refl _) (fun _ _ => rfl) h.dom

theorem nodup_snoc {O : List (Nat × Nat)} {b g n : Nat} (h : (O.map (·.1)).Nodup) (hlt : ∀ (i : Nat) (p : Nat × Nat), O[i]? = some p → p.1 < n) (hb : n ≤ b) : ((O ++ [(b, g)]).map (·.1)).Nodup := by
  rw [List.map_append, List.nodup_append]
  refine ⟨h, by simp, fun a ha c hc => ?_⟩
  simp at hc
  subst hc
  obtain ⟨p, hin, rfl⟩ := List.mem_map.1 ha
  obtain ⟨j, hj⟩ := List.mem_iff_getElem?.1 hin
  have := hlt j p hj
  omega
/-- a new object, of whatever kind -/
theorem Inv.newOb (h : Inv G N γ σ w) (o : Obj) (ob : Ob) (κ' : Kap) (hk : ∀ b, b < w.heap.size → κ' b = γ.κ b) (hd : ∀ b k, κ' b = some k → b < w.heap.size + 1)
    (hob : Ext γ w ⟨κ', γ.O ++ [(w.heap.size, 0)]⟩ (w.alloc o) → ObOk ⟨κ', γ.O ++ [(w.heap.size, 0)]⟩ (w.alloc o) ob (w.heap.size, 0)) :
    Inv G N ⟨κ', γ.O ++ [(w.heap.size, 0)]⟩ (σ ++ [ob]) (w.alloc o) ∧ Ext γ w ⟨κ', γ.O ++ [(w.heap.size, 0)]⟩ (w.alloc o) := by
  have hx : Ext γ w ⟨κ', γ.O ++ [(w.heap.size, 0)]⟩ (w.alloc o) := {
    kap := fun b k hk' => ⟨k, by show κ' b = _; rw [hk b (h.dom b k hk')]; exact hk', Nat.le_refl _⟩
    cell := fun b k q hk' _ => cell_same (Below.heap_alloc _ _ _ (h.dom b k hk')) q
    obj := fun i blk g hi => ⟨blk, g, by show (γ.O ++ _)[i]? = _; rw [List.getElem?_append_left (List.getElem?_eq_some_iff.1 hi).1]; exact hi, Nat.le_refl _, fun _ => ⟨rfl, size_same (Below.heap_alloc _ _ _ (h.oblt hi))⟩⟩ }
  refine ⟨⟨by have := h.base; simp; omega, by simp [h.len], nodup_snoc h.nd (fun i p hp => h.oblt hp) (Nat.le_refl _), fun i p hp => ?_, fun i ob' p h1 h2 => ?_, fun b k hk' => by simpa using hd b k hk', fun g r hg => (h.glob g r hg).ext hx, fun g r hg => ⟨(h.gsz g r hg).1, (size_same (Below.heap_alloc _ _ _ (by have := (h.gsz g r hg).1; have := h.base; omega))).trans (h.gsz g r hg).2⟩⟩, hx⟩
  · have hp' : (γ.O ++ [(w.heap.size, 0)])[i]? = some p := hp
    by_cases hi : i < γ.O.length
    · rw [List.getElem?_append_left hi] at hp'
      exact h.low i p hp'
    · rw [List.getElem?_append_right (by omega)] at hp'
      have := List.mem_of_getElem? hp'
      simp at this
      subst this
      exact h.base
  · have h2' : (γ.O ++ [(w.heap.size, 0)])[i]? = some p := h2
    by_cases hi : i < γ.O.length
    · rw [List.getElem?_append_left hi] at h2'
      rw [List.getElem?_append_left (by have := h.len; omega)] at h1
      exact (h.obj i ob' p h1 h2').keep hx (hk _ (h.oblt h2')) (Below.heap_alloc _ _ _ (h.oblt h2'))
    · rw [List.getElem?_append_right (by omega)] at h2'
      have hlt : i < σ.length + 1 := by have := (List.getElem?_eq_some_iff.1 h1).1; simpa using this
      have hi0 : i = σ.length := by have := h.len; omega
      rw [List.getElem?_append_right (by omega)] at h1
      subst hi0
      simp at h1
      have := List.mem_of_getElem? h2'
      simp at this
      subst h1 this
      exact hob hx
/-- a new object of cells -/
theorem Inv.newRow (h : Inv G N γ σ w) (us : Array Value) (e : TypeId) (cs : List V) (hl : cs.length ≤ us.size) (hc : ∀ j, j < cs.length → RepC γ w (cs.getD j .und) (us.getD j undef)) :
    Inv G N ⟨kset γ.κ w.heap.size 0, γ.O ++ [(w.heap.size, 0)]⟩ (σ ++ [.row cs e 0 0]) (w.alloc (.cells us e)) ∧ Ext γ w ⟨kset γ.κ w.heap.size 0, γ.O ++ [(w.heap.size, 0)]⟩ (w.alloc (.cells us e)) :=
  h.newOb _ _ _ (fun b hb => kset_other _ _ (by omega)) (kset_dom (fun b k hk => by have := h.dom b k hk; omega) (by omega)) fun hx =>
    ⟨rfl, kset_self _ _ _, Nat.zero_le _, us, 0, 0, heap_alloc_new w _, ⟨Nat.le_refl _, .inl (Nat.le_refl _)⟩, hl, fun j hj => (hc j hj).ext hx⟩
/-- a new map -/
theorem Inv.newMap (h : Inv G N γ σ w) :
    Inv G N ⟨γ.κ, γ.O ++ [(w.heap.size, 0)]⟩ (σ ++ [.map []]) (w.alloc (.map #[] 0)) ∧ Ext γ w ⟨γ.κ, γ.O ++ [(w.heap.size, 0)]⟩ (w.alloc (.map #[] 0)) :=
  h.newOb _ _ _ (fun _ _ => rfl) (fun b k hk => by have := h.dom b k hk; omega) fun _ =>
    ⟨rfl, by
      show γ.κ w.heap.size = none
      cases hk : γ.κ w.heap.size with
      | none => rfl
      | some k => have := h.dom _ _ hk; omega, #[], heap_alloc_new w _, rfl, fun i k v hi => by simp at hi⟩

/-- an object turns in its place -/
theorem Inv.turn (h : Inv G N γ σ w) {i : Nat} {p p' : Nat × Nat} {ob' : Ob} {κ' : Kap} (hp : γ.O[i]? = some p) (hsz : w.heap.size ≤ w'.heap.size) (hoth : ∀ b, b < w.heap.size → b ≠ p.1 → w'.heap[b]? = w.heap[b]?)
    (hk : ∀ b, b < w.heap.size → b ≠ p.1 → κ' b = γ.κ b) (hd : ∀ b k, κ' b = some k → b < w'.heap.size)
    (hset : ∀ z, γ.κ p.1 = some z → ∃ z', κ' p.1 = some z' ∧ z ≤ z' ∧ ∀ o, o < z → w'.cell? ⟨p.1, o, none⟩ = w.cell? ⟨p.1, o, none⟩)
    (hgen : p.2 ≤ p'.2) (hsame : p'.2 = p.2 → p'.1 = p.1 ∧ sizeOf? w' p.1 = sizeOf? w p.1) (hnew : p'.1 = p.1 ∨ w.heap.size ≤ p'.1)
    (hob : Ext γ w ⟨κ', γ.O.set i p'⟩ w' → ObOk ⟨κ', γ.O.set i p'⟩ w' ob' p') :
    Inv G N ⟨κ', γ.O.set i p'⟩ (σ.set i ob') w' ∧ Ext γ w ⟨κ', γ.O.set i p'⟩ w' := by
  have hil := (List.getElem?_eq_some_iff.1 hp).1
  have hx : Ext γ w ⟨κ', γ.O.set i p'⟩ w' := {
    kap := fun b k hk' => by
      by_cases hb : b = p.1
      · subst hb
        obtain ⟨z', h1, h2, _⟩ := hset k hk'
        exact ⟨z', h1, h2⟩
      · exact ⟨k, (hk b (h.dom b k hk') hb).trans hk', Nat.le_refl _⟩
    cell := fun b k o hk' ho => by
      by_cases hb : b = p.1
      · subst hb
        obtain ⟨z', h1, h2, h3⟩ := hset k hk'
        exact h3 o ho
      · exact cell_same (hoth b (h.dom b k hk') hb) o
    obj := fun j blk g hj => by
      by_cases hij : i = j
      · subst hij
        rw [hp] at hj
        injection hj with hj
        subst hj
        refine ⟨p'.1, p'.2, by show (γ.O.set i p')[i]? = _; rw [List.getElem?_set_self hil], hgen, hsame⟩
      · exact ⟨blk, g, by show (γ.O.set i p')[j]? = _; rw [List.getElem?_set_ne hij]; exact hj, Nat.le_refl _, fun _ => ⟨rfl, size_same (hoth blk (h.oblt hj) (fun e => h.ne hp hj hij e.symm))⟩⟩ }
  refine ⟨⟨Nat.le_trans h.base hsz, by simp [h.len], ?_, fun j q hq => ?_, fun j ob q h1 h2 => ?_, hd, fun g r hg => (h.glob g r hg).ext hx, fun g r hg => ⟨(h.gsz g r hg).1, (size_same (hoth g (by have := (h.gsz g r hg).1; have := h.base; omega) (by have := (h.gsz g r hg).1; have := h.low i p hp; omega))).trans (h.gsz g r hg).2⟩⟩, hx⟩
  · show ((γ.O.set i p').map (·.1)).Nodup
    rw [List.map_set]
    rcases hnew with e | hge
    · rw [e]
      have : (γ.O.map (·.1)).set i p.1 = γ.O.map (·.1) := by
        apply List.ext_getElem?
        intro j
        by_cases hij : i = j
        · subst hij
          rw [List.getElem?_set_self (by simpa using hil)]
          simp [hp]
        · rw [List.getElem?_set_ne hij]
      rw [this]
      exact h.nd
    · refine List.pairwise_iff_getElem.2 fun a b ha hb hab => ?_
      have hp0 := List.pairwise_iff_getElem.1 h.nd
      have hlt : ∀ (j : Nat) (hj : j < (γ.O.map (·.1)).length), (γ.O.map (·.1))[j] ≠ p'.1 := fun j hj => by
        have hj' : j < γ.O.length := by simpa using hj
        have := h.oblt (i := j) (p := γ.O[j]) (List.getElem?_eq_getElem hj')
        rw [List.getElem_map]; omega
      rw [List.getElem_set, List.getElem_set]
      simp only [List.length_set] at ha hb
      split
      · split
        · omega
        · exact fun e => hlt b hb e.symm
      · split
        · exact hlt a ha
        · exact hp0 a b ha hb hab
  · have hq' : (γ.O.set i p')[j]? = some q := hq
    by_cases hij : i = j
    · subst hij
      rw [List.getElem?_set_self hil] at hq'
      injection hq' with hq'
      subst hq'
      rcases hnew with e | hge
      · rw [e]; exact h.low i p hp
      · exact Nat.le_trans h.base hge
    · rw [List.getElem?_set_ne hij] at hq'
      exact h.low j q hq'
  · have h2' : (γ.O.set i p')[j]? = some q := h2
    by_cases hij : i = j
    · subst hij
      rw [List.getElem?_set_self hil] at h2'
      rw [List.getElem?_set_self (by have := h.len; omega)] at h1
      injection h2' with h2'
      injection h1 with h1
      subst h1 h2'
      exact hob hx
    · rw [List.getElem?_set_ne hij] at h1 h2'
      have hne : q.1 ≠ p.1 := fun e => h.ne hp h2' hij e.symm
      exact (h.obj j ob q h1 h2').keep hx (hk _ (h.oblt h2') hne) (hoth _ (h.oblt h2') hne)

theorem set_same {α : Type} {l : List α} {i : Nat} {x : α} (h : l[i]? = some x) : l.set i x = l := by
  apply List.ext_getElem?
  intro j
  by_cases hij : i = j
  · subst hij
    rw [List.getElem?_set_self (List.getElem?_eq_some_iff.1 h).1, h]
  · rw [List.getElem?_set_ne hij]

theorem setRow_cell (w : World) (b : Nat) {us us' : Array Value} {e : TypeId} {fr : Nat × Nat} (hh : w.heap[b]? = some (.cells us e fr)) {o : Nat} (ho : us'[o]? = us[o]?) : (w.setRow b us').cell? ⟨b, o, none⟩ = w.cell? ⟨b, o, none⟩ := by
  have hnew := setRow_heap w b us us' e _ hh
  simp [World.cell?, hnew, hh, ho]
theorem size_setRow (w : World) (b : Nat) {us us' : Array Value} {e : TypeId} {fr : Nat × Nat} (hh : w.heap[b]? = some (.cells us e fr)) (hs : us'.size = us.size) : sizeOf? (w.setRow b us') b = sizeOf? w b := by
  have hnew := setRow_heap w b us us' e _ hh
  simp [sizeOf?, hnew, hh, hs]
/-- cells of an object are written in its block: what is settled stays; a growing one is of a new generation -/
theorem Inv.write (h : Inv G N γ σ w) {i : Nat} {p : Nat × Nat} {cs cs' : List V} {e g g' z lo hi : Nat} {us us' : Array Value} (hp : γ.O[i]? = some p) (ho : σ[i]? = some (.row cs e g z)) (hh : w.heap[p.1]? = some (.cells us e (lo, hi))) (hhi : lo ≤ hi ∧ (hi ≤ z ∨ us.size ≤ lo)) (hg : g ≤ g') (hz : z ≤ cs'.length)
    (hsz : us'.size = us.size) (hl : cs'.length ≤ us.size) (hsame : ∀ o, o < z → us'[o]? = us[o]?) (hc : ∀ j, j < cs'.length → RepC γ w (cs'.getD j .und) (us'.getD j undef)) :
    Inv G N ⟨γ.κ, γ.O.set i (p.1, g')⟩ (σ.set i (.row cs' e g' z)) (w.setRow p.1 us') ∧ Ext γ w ⟨γ.κ, γ.O.set i (p.1, g')⟩ (w.setRow p.1 us') := by
  obtain ⟨q, hq, h1, h2, h3, _⟩ := h.of ho
  rw [hp] at hq
  injection hq with hq
  subst hq
  have hsize : (w.setRow p.1 us').heap.size = w.heap.size := by simp [World.setRow]
  refine h.turn (p' := (p.1, g')) hp (by omega) (fun b _ hb => setRow_other w p.1 b us' hb) (fun _ _ _ => rfl) (fun b k hk => by rw [hsize]; exact h.dom b k hk) (fun z' hz' => ?_) (by rw [h1]; exact hg) (fun _ => ⟨rfl, size_setRow w p.1 hh hsz⟩) (.inl rfl) fun hx => ?_
  · rw [h2] at hz'
    injection hz' with hz'
    subst hz'
    exact ⟨z, h2, Nat.le_refl _, fun o ho => setRow_cell w p.1 hh (hsame o ho)⟩
  · exact ⟨rfl, h2, hz, us', lo, hi, setRow_heap w p.1 us us' e _ hh, by rw [hsz]; exact hhi, by omega, fun j hj => (hc j hj).ext hx⟩
/-- an object has grown into a new block -/
theorem Inv.moved (h : Inv G N γ σ w) {i : Nat} {p : Nat × Nat} {cs cs' : List V} {e g z : Nat} {us' : Array Value} (hp : γ.O[i]? = some p) (ho : σ[i]? = some (.row cs e g z)) (hz : z ≤ cs'.length)
    (hl : cs'.length ≤ us'.size) (hc : ∀ j, j < cs'.length → RepC γ w (cs'.getD j .und) (us'.getD j undef)) :
    Inv G N ⟨kset γ.κ w.heap.size z, γ.O.set i (w.heap.size, g + 1)⟩ (σ.set i (.row cs' e (g + 1) z)) (w.alloc (.cells us' e)) ∧ Ext γ w ⟨kset γ.κ w.heap.size z, γ.O.set i (w.heap.size, g + 1)⟩ (w.alloc (.cells us' e)) := by
  obtain ⟨q, hq, h1, h2, h3, _⟩ := h.of ho
  rw [hp] at hq
  injection hq with hq
  subst hq
  have hne : ∀ b, b < w.heap.size → b ≠ w.heap.size := fun b hb => by omega
  refine h.turn (p' := (w.heap.size, g + 1)) hp (by simp) (fun b hb _ => Below.heap_alloc _ _ _ hb) (fun b hb _ => kset_other _ _ (hne b hb)) (kset_dom (fun b k hk => by have := h.dom b k hk; simp; omega) (by simp)) (fun z' hz' => ?_) (by show p.2 ≤ g + 1; omega) (fun e => by have e' : g + 1 = p.2 := e; omega) (.inr (Nat.le_refl _)) fun hx => ?_
  · exact ⟨z', (kset_other _ _ (hne _ (h.oblt hp))).trans hz', Nat.le_refl _, fun o _ => cell_same (Below.heap_alloc _ _ _ (h.oblt hp)) o⟩
  · exact ⟨rfl, kset_self _ _ _, hz, us', 0, 0, heap_alloc_new w _, ⟨Nat.le_refl _, .inl (Nat.zero_le _)⟩, hl, fun j hj => (hc j hj).ext hx⟩
/-- more of an object is settled -/
theorem Inv.shut1 (h : Inv G N γ σ w) {i : Nat} {p : Nat × Nat} {cs : List V} {e g z z' : Nat} (hp : γ.O[i]? = some p) (ho : σ[i]? = some (.row cs e g z)) (hz : z ≤ z') (hz' : z' ≤ cs.length) :
    Inv G N ⟨kset γ.κ p.1 z', γ.O⟩ (σ.set i (.row cs e g z')) w ∧ Ext γ w ⟨kset γ.κ p.1 z', γ.O⟩ w := by
  obtain ⟨q, hq, h1, h2, h3, us, lo, hi, h4, h5, h6, h7⟩ := h.of ho
  rw [hp] at hq
  injection hq with hq
  subst hq
  have := h.turn (w' := w) (p' := p) (ob' := .row cs e g z') (κ' := kset γ.κ p.1 z') hp (Nat.le_refl _) (fun _ _ _ => rfl) (fun b _ hb => kset_other _ _ hb) (kset_dom h.dom (h.oblt hp)) (fun z1 hz1 => by
    rw [h2] at hz1
    injection hz1 with hz1
    subst hz1
    exact ⟨z', kset_self _ _ _, hz, fun _ _ => rfl⟩) (Nat.le_refl _) (fun _ => ⟨rfl, rfl⟩) (.inl rfl) (fun hx => ⟨h1, kset_self _ _ _, hz', us, lo, hi, h4, ⟨h5.1, h5.2.imp (fun h => Nat.le_trans h hz) id⟩, h6, fun j hj => (h7 j hj).ext hx⟩)
  rw [set_same hp] at this
  exact this
/-- a map turns -/
theorem Inv.turnMap (h : Inv G N γ σ w) {i : Nat} {p : Nat × Nat} {kvs kvs' : List (List UInt8 × V)} {es' : Array MapEntry} (hp : γ.O[i]? = some p) (ho : σ[i]? = some (.map kvs))
    (hw : w'.heap.size = w.heap.size) (hoth : ∀ b, b ≠ p.1 → w'.heap[b]? = w.heap[b]?) (hh : w'.heap[p.1]? = some (.map es' kvs'.length)) (hs : es'.size = kvs'.length)
    (hc : ∀ (j : Nat) (k : List UInt8) (v : V), kvs'[j]? = some (k, v) → ∃ en : MapEntry, es'[j]? = some en ∧ en.key = .string ⟨k.toArray⟩ ∧ k.length ≤ maxLen ∧ en.born = j ∧ v.flatB = true ∧ RepC γ w v en.val) :
    Inv G N γ (σ.set i (.map kvs')) w' ∧ Ext γ w γ w' := by
  obtain ⟨q, hq, h1, h2, es, h3, _⟩ := h.of ho
  rw [hp] at hq
  injection hq with hq
  subst hq
  have hso : sizeOf? w' p.1 = sizeOf? w p.1 := by simp [sizeOf?, hh, h3]
  have := h.turn (w' := w') (p' := p) (ob' := .map kvs') (κ' := γ.κ) hp (by omega) (fun b _ hb => hoth b hb) (fun _ _ _ => rfl) (fun b k hk => by rw [hw]; exact h.dom b k hk) (fun z hz => by rw [h2] at hz; cases hz) (Nat.le_refl _) (fun _ => ⟨rfl, hso⟩) (.inl rfl) (fun hx => ⟨h1, h2, es', hh, hs, fun j k v hj => by
    obtain ⟨en, a1, a2, a3, a4, a5, a6⟩ := hc j k v hj
    exact ⟨en, a1, a2, a3, a4, a5, a6.ext hx⟩⟩)
  rw [set_same hp] at this
  exact this
end Go.Proofs.YticpkkjnajmpoaaGreatDoor.KM
