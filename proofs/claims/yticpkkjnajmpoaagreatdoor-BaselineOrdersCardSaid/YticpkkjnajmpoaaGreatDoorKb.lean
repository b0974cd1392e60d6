/- How the plain machine's values lie in memory (second form). No program is named here. -/
import Derived.Test.YticpkkjnajmpoaaGreatDoorKa
import Derived.Below
import Derived.DataReads
set_option linter.all false
namespace Go.Proofs.YticpkkjnajmpoaaGreatDoor.KM
open Go

abbrev Kap := Nat → Option Nat

/-- cells of settled rows: nothing that can change, no pointer -/
inductive RepR (κ : Kap) (w : World) : V → Value → Prop
  | bool {b : Bool} : RepR κ w (.bool b) (.bool b)
  | int {k : IntKind} {n : Int} : RepR κ w (.int k n) (.int k n)
  | str {l : List UInt8} : l.length ≤ maxLen → RepR κ w (.str l) (.string ⟨l.toArray⟩)
  | nili : RepR κ w .nili .nilIface
  | ifc {t : TypeId} {u : Value} : RepR κ w .ifc (.iface t u)
  | nils : RepR κ w .nils (.slice none 0 0)
  | lst {t : Nat} {xs : List (List V)} {a : Addr} {cap m : Nat} (row : Nat → Nat → Value) :
      (t = 1 → cap = xs.length) → xs.length ≤ cap → cap ≤ maxLen →
      (0 < xs.length → a.spot = none ∧ ∃ k, κ a.block = some k ∧ a.off + xs.length * m ≤ k) →
      (∀ i, i < xs.length → (xs.getD i []).length = m) →
      (∀ i j, i < xs.length → j < m → w.cell? ⟨a.block, a.off + i * m + j, none⟩ = some (row i j)) →
      (∀ i j, i < xs.length → j < m → RepR κ w ((xs.getD i []).getD j .und) (row i j)) →
      RepR κ w (.lst t xs) (.slice (some a) xs.length cap)

/-- what the machine knows of memory: how far blocks are settled, where the objects lie (block, generation) -/
structure Gh where
  κ : Kap
  O : List (Nat × Nat)

def sizeOf? (w : World) (b : Nat) : Option Nat := match w.heap[b]? with
  | some (.cells c _ _) => some c.size
  | _ => none

/-- one cell -/
inductive RepC (γ : Gh) (w : World) : V → Value → Prop
  | row {v : V} {u : Value} : RepR γ.κ w v u → RepC γ w v u
  | imm {r : List V} {off b o k : Nat} (row : Nat → Value) : γ.κ b = some k → o + r.length ≤ k → (∀ j, j < r.length → w.cell? ⟨b, o + j, none⟩ = some (row j)) → (∀ j, j < r.length → RepR γ.κ w (r.getD j .und) (row j)) →
      RepC γ w (.imm r off) (.pointer (some ⟨b, o + off, none⟩))
  | ptr {i g off blk g' b' : Nat} : γ.O[i]? = some (blk, g') → g ≤ g' → (g = g' → b' = blk) → RepC γ w (.ptr i g off) (.pointer (some ⟨b', off, none⟩))
  | sl {i g off len m blk g' b' o' cap : Nat} {own : Bool} : γ.O[i]? = some (blk, g') → g ≤ g' → len ≤ cap → cap ≤ maxLen → (0 < cap → o' = off) → (g = g' → b' = blk ∧ (own = true → sizeOf? w blk = some (off + cap * m))) → RepC γ w (.sl i g off len m own) (.slice (some ⟨b', o', none⟩) len cap)
  | nilp : RepC γ w .nilp (.pointer none)
  | nilf : RepC γ w .nilf .nilFunc
  | ifc {t : TypeId} {u : Value} : RepC γ w .ifc (.iface t u)
  | fn {f : Nat} {a c : List V} {ua uc : List Value} : a.length = ua.length → c.length = uc.length → (∀ j, j < a.length → RepC γ w (a.getD j .und) (ua.getD j undef)) → (∀ j, j < c.length → RepC γ w (c.getD j .und) (uc.getD j undef)) → RepC γ w (.fn f a c) (.func (.func f) ua.toArray uc.toArray)
  | mp {i blk g' : Nat} {u : Value} : γ.O[i]? = some (blk, g') → u.oneCell' = true → (g' = 0 → u = .map (some blk)) → RepC γ w (.mp i) u

/-- a value that is no tuple -/
inductive Rep1 (γ : Gh) (w : World) : V → Value → Prop
  | cell {v : V} {u : Value} : RepC γ w v u → Rep1 γ w v u
  | agg {cs : List V} {us : List Value} : cs.length = us.length → (∀ j, j < cs.length → RepC γ w (cs.getD j .und) (us.getD j undef)) → Rep1 γ w (.agg cs) (.agg us.toArray)
inductive RepV (γ : Gh) (w : World) : V → Value → Prop
  | und {u : Value} : RepV γ w .und u
  | skp : RepV γ w .skp undef
  | one {v : V} {u : Value} : Rep1 γ w v u → RepV γ w v u
  | tup {vs : List V} {us : List Value} : vs.length = us.length → (∀ j, j < vs.length → Rep1 γ w (vs.getD j .und) (us.getD j undef)) → RepV γ w (.tup vs) (.tuple us.toArray)

/-- what is known stays known -/
structure Ext (γ : Gh) (w : World) (γ' : Gh) (w' : World) : Prop where
  kap : ∀ (b k : Nat), γ.κ b = some k → ∃ k', γ'.κ b = some k' ∧ k ≤ k'
  cell : ∀ (b k o : Nat), γ.κ b = some k → o < k → w'.cell? ⟨b, o, none⟩ = w.cell? ⟨b, o, none⟩
  obj : ∀ (i blk g : Nat), γ.O[i]? = some (blk, g) → ∃ blk' g', γ'.O[i]? = some (blk', g') ∧ g ≤ g' ∧ (g' = g → blk' = blk ∧ sizeOf? w' blk = sizeOf? w blk)

theorem Ext.refl (γ : Gh) (w : World) : Ext γ w γ w :=
  ⟨fun _ k h => ⟨k, h, Nat.le_refl _⟩, fun _ _ _ _ _ => rfl, fun _ blk g h => ⟨blk, g, h, Nat.le_refl _, fun _ => ⟨rfl, rfl⟩⟩⟩
theorem Ext.trans {γ γ' γ'' : Gh} {w w' w'' : World} (h : Ext γ w γ' w') (g : Ext γ' w' γ'' w'') : Ext γ w γ'' w'' where
  kap := fun b k hb => by
    obtain ⟨k', h1, h2⟩ := h.kap b k hb
    obtain ⟨k'', g1, g2⟩ := g.kap b k' h1
    exact ⟨k'', g1, Nat.le_trans h2 g2⟩
  cell := fun b k o hb ho => by
    obtain ⟨k', h1, h2⟩ := h.kap b k hb
    exact (g.cell b k' o h1 (Nat.lt_of_lt_of_le ho h2)).trans (h.cell b k o hb ho)
  obj := fun i blk gn hi => by
    obtain ⟨b1, g1, h1, h2, h3⟩ := h.obj i blk gn hi
    obtain ⟨b2, g2, k1, k2, k3⟩ := g.obj i b1 g1 h1
    refine ⟨b2, g2, k1, Nat.le_trans h2 k2, fun e => ?_⟩
    obtain ⟨rfl, a2⟩ := h3 (by omega)
    obtain ⟨rfl, c2⟩ := k3 (by omega)
    exact ⟨rfl, c2.trans a2⟩

theorem RepR.keep {κ κ' : Kap} {w w' : World} (hk : ∀ b k, κ b = some k → ∃ k', κ' b = some k' ∧ k ≤ k') (hc : ∀ b k o, κ b = some k → o < k → w'.cell? ⟨b, o, none⟩ = w.cell? ⟨b, o, none⟩) {v : V} {u : Value} (h : RepR κ w v u) : RepR κ' w' v u := by
  induction h with
  | bool => exact .bool
  | int => exact .int
  | str h => exact .str h
  | nili => exact .nili
  | ifc => exact .ifc
  | nils => exact .nils
  | @lst t xs a cap m row h1 h2 h3 h4 h5 h6 _ ih =>
    refine .lst row h1 h2 h3 (fun hl => ?_) h5 (fun i j hi hj => ?_) ih
    · obtain ⟨hs, k, hk1, hle⟩ := h4 hl
      obtain ⟨k', hk', hle'⟩ := hk _ _ hk1
      exact ⟨hs, k', hk', Nat.le_trans hle hle'⟩
    · obtain ⟨hs, k, hk1, hle⟩ := h4 (by omega)
      have : i * m + m ≤ xs.length * m := by rw [← Nat.succ_mul]; exact Nat.mul_le_mul_right _ hi
      exact (hc _ _ _ hk1 (by omega)).trans (h6 i j hi hj)

section
variable {γ γ' : Gh} {w w' : World}
theorem RepC.ext (hx : Ext γ w γ' w') {v : V} {u : Value} (h : RepC γ w v u) : RepC γ' w' v u := by
  induction h with
  | row h => exact .row (h.keep hx.kap hx.cell)
  | imm row h1 h2 h3 h4 =>
    obtain ⟨k', hk', hle⟩ := hx.kap _ _ h1
    exact .imm row hk' (Nat.le_trans h2 hle) (fun j hj => (hx.cell _ _ _ h1 (by omega)).trans (h3 j hj)) (fun j hj => (h4 j hj).keep hx.kap hx.cell)
  | ptr h1 h2 h3 =>
    obtain ⟨b1, g1, k1, k2, k3⟩ := hx.obj _ _ _ h1
    refine .ptr k1 (Nat.le_trans h2 k2) (fun e => ?_)
    obtain ⟨rfl, _⟩ := k3 (by omega)
    exact h3 (by omega)
  | sl h1 h2 h3 h4 h5 h6 =>
    obtain ⟨b1, g1, k1, k2, k3⟩ := hx.obj _ _ _ h1
    refine .sl k1 (Nat.le_trans h2 k2) h3 h4 h5 (fun e => ?_)
    obtain ⟨rfl, hs⟩ := k3 (by omega)
    obtain ⟨a1, a2⟩ := h6 (by omega)
    exact ⟨a1, fun h => hs.trans (a2 h)⟩
  | nilp => exact .nilp
  | nilf => exact .nilf
  | ifc => exact .ifc
  | fn h1 h2 _ _ ih1 ih2 => exact .fn h1 h2 ih1 ih2
  | mp h1 h2 h3 =>
    obtain ⟨b1, g1, k1, k2, k3⟩ := hx.obj _ _ _ h1
    refine .mp k1 h2 (fun e => ?_)
    obtain ⟨rfl, _⟩ := k3 (by omega)
    exact h3 (by omega)
theorem Rep1.ext (hx : Ext γ w γ' w') {v : V} {u : Value} (h : Rep1 γ w v u) : Rep1 γ' w' v u := by
  cases h with
  | cell h => exact .cell (h.ext hx)
  | agg h1 h2 => exact .agg h1 (fun j hj => (h2 j hj).ext hx)
theorem RepV.ext (hx : Ext γ w γ' w') {v : V} {u : Value} (h : RepV γ w v u) : RepV γ' w' v u := by
  cases h with
  | und => exact .und
  | skp => exact .skp
  | one h => exact .one (h.ext hx)
  | tup h1 h2 => exact .tup h1 (fun j hj => (h2 j hj).ext hx)
end

/-- the slots of a frame -/
def RepE (γ : Gh) (w : World) (e : Env) (a : Array Value) : Prop := ∀ n, RepV γ w (e.get n) (a.getD n undef)
theorem RepE.ext {γ γ' : Gh} {w w' : World} (hx : Ext γ w γ' w') {e : Env} {a : Array Value} (h : RepE γ w e a) : RepE γ' w' e a := fun n => (h n).ext hx

theorem Env.get_put (e : Env) (n m : Nat) (v : V) : (e.put n v).get m = if n = m then v else e.get m := by
  induction e with
  | nil => simp [Env.put, Env.get]
  | cons p r ih =>
    obtain ⟨k, u⟩ := p
    unfold Env.put
    by_cases h : k = n
    · rw [if_pos h]
      subst h
      unfold Env.get
      split <;> simp_all
    · rw [if_neg h]
      unfold Env.get
      rw [ih]
      by_cases hk : k = m
      · simp [hk]; rintro rfl; exact absurd hk h
      · simp [hk]
theorem Env.get_del (e : Env) (ks : List Nat) (m : Nat) : (e.del ks).get m = .und ∨ (e.del ks).get m = e.get m := by
  induction e with
  | nil => exact .inl rfl
  | cons p r ih =>
    obtain ⟨k, u⟩ := p
    unfold Env.del
    split
    · rename_i hk
      by_cases h : k = m
      · subst h
        left
        clear ih
        induction r with
        | nil => rfl
        | cons q r ih =>
          obtain ⟨k', u'⟩ := q
          unfold Env.del
          split
          · exact ih
          · rename_i hk'
            unfold Env.get
            rw [if_neg (by rintro rfl; exact hk' hk)]
            exact ih
      · rcases ih with ih | ih
        · exact .inl ih
        · right; rw [ih]; simp [Env.get, h]
    · unfold Env.get
      split
      · exact .inr rfl
      · exact ih
theorem Env.get_keep (e : Env) : ∀ (ks : List Nat) (m : Nat), (e.keep ks).get m = .und ∨ (e.keep ks).get m = e.get m
  | [], _ => .inl rfl
  | k :: ks, m => by
    simp only [Env.keep]
    rw [Env.get.eq_2]
    split
    · rename_i h; subst h; exact .inr rfl
    · exact Env.get_keep e ks m
theorem RepE.del {γ : Gh} {w : World} {e : Env} {a : Array Value} (h : RepE γ w e a) (ks : List Nat) : RepE γ w (e.del ks) a := fun n => by
  rcases Env.get_del e ks n with h' | h'
  · rw [h']; exact .und
  · rw [h']; exact h n
theorem RepE.keep {γ : Gh} {w : World} {e : Env} {a : Array Value} (h : RepE γ w e a) (ks : List Nat) : RepE γ w (e.keep ks) a := fun n => by
  rcases Env.get_keep e ks n with h' | h'
  · rw [h']; exact .und
  · rw [h']; exact h n
theorem RepE.put {γ : Gh} {w : World} {e : Env} {a : Array Value} (h : RepE γ w e a) {d : Nat} {v : V} {u : Value} (hd : d < a.size) (hv : RepV γ w v u) : RepE γ w (e.put d v) (a.setIfInBounds d u) := fun n => by
  rw [Env.get_put]
  split
  · rename_i hn
    subst hn
    simpa [Array.getD_eq_getD_getElem?, hd] using hv
  · rename_i hn
    have : (a.setIfInBounds d u).getD n undef = a.getD n undef := by simp [Array.getD_eq_getD_getElem?, Array.getElem?_setIfInBounds, hn]
    rw [this]
    exact h n

/-- memory holds an object -/
def ObOk (γ : Gh) (w : World) (ob : Ob) (p : Nat × Nat) : Prop :=
  match ob with
  | .row cs e g z => p.2 = g ∧ γ.κ p.1 = some z ∧ z ≤ cs.length ∧ ∃ us lo hi, w.heap[p.1]? = some (.cells us e (lo, hi)) ∧ (lo ≤ hi ∧ (hi ≤ z ∨ us.size ≤ lo)) ∧ cs.length ≤ us.size ∧ ∀ j, j < cs.length → RepC γ w (cs.getD j .und) (us.getD j undef)
  | .map kvs => p.2 = 0 ∧ γ.κ p.1 = none ∧ ∃ es : Array MapEntry, w.heap[p.1]? = some (.map es kvs.length) ∧ es.size = kvs.length ∧ ∀ (i : Nat) (k : List UInt8) (v : V), kvs[i]? = some (k, v) → ∃ en : MapEntry, es[i]? = some en ∧ en.key = .string ⟨k.toArray⟩ ∧ k.length ≤ maxLen ∧ en.born = i ∧ v.flatB = true ∧ RepC γ w v en.val
  | .dead => p.1 < w.heap.size

/-- MEMORY HOLDS WHAT THE MACHINE'S STATE SAYS; N: below it nothing is written. G: tables that are read. -/
structure Inv (G : List (Nat × List V)) (N : Nat) (γ : Gh) (σ : St) (w : World) : Prop where
  base : N ≤ w.heap.size
  len : γ.O.length = σ.length
  nd : (γ.O.map (·.1)).Nodup
  low : ∀ (i : Nat) (p : Nat × Nat), γ.O[i]? = some p → N ≤ p.1
  obj : ∀ (i : Nat) (ob : Ob) (p : Nat × Nat), σ[i]? = some ob → γ.O[i]? = some p → ObOk γ w ob p
  dom : ∀ b k, γ.κ b = some k → b < w.heap.size
  glob : ∀ g r, (g, r) ∈ G → RepC γ w (.imm r 0) (.pointer (some ⟨g, 0, none⟩))
  gsz : ∀ g r, (g, r) ∈ G → g < N ∧ sizeOf? w g = some r.length
end Go.Proofs.YticpkkjnajmpoaaGreatDoor.KM
