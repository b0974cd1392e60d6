/- Pure values and how they lie in memory; what the row reads of an argument lies there as a pure value. -/
import Derived.Test.YtliiehfjcplieaaDoorRows
import Derived.WalkKit
import Derived.DataReads
import Derived.Below
namespace Go.Proofs.YtliiehfjcplieaaDoor.AM
open Go

/-- a pure value of one cell: a literal, the nil slice, a slice by its elements (each a row of cells) -/
inductive PV where
  | lit (v : Value)
  | nils
  | lst (t : Nat) (xs : List (List PV))

def flatB : Value → Bool
  | .bool _ | .int _ _ | .float _ _ | .nilIface => true
  | .string s => decide (s.size ≤ maxLen)
  | _ => false

/-- which blocks are settled: how many of their first cells, and by which token they may grow -/
abbrev Sig := Nat → Option (Nat × Nat)

/-- the right to grow -/
def Own (ψ : Sig) (w : World) (t : Nat) (a : Addr) (n cap m : Nat) : Prop :=
  t = 0 ∨ (t = 1 ∧ cap = n) ∨ (2 ≤ t ∧ a.off = 0 ∧ a.spot = none ∧ (∃ k, ψ a.block = some (k, t) ∧ n * m ≤ k) ∧ ∃ c e, w.heap[a.block]? = some (.cells c e (0, 0)) ∧ c.size = cap * m)

inductive Rep (ψ : Sig) (w : World) : PV → Value → Prop
  | lit {v : Value} : flatB v = true → Rep ψ w (.lit v) v
  | nils : Rep ψ w .nils (.slice none 0 0)
  | lst {t : Nat} {xs : List (List PV)} {a : Addr} {cap m : Nat} (row : Nat → Nat → Value) :
      xs.length ≤ cap → cap ≤ maxLen →
      (0 < xs.length → a.spot = none ∧ ∃ k t', ψ a.block = some (k, t') ∧ a.off + xs.length * m ≤ k) →
      Own ψ w t a xs.length cap m →
      (∀ i, i < xs.length → (xs.getD i []).length = m) →
      (∀ i j, i < xs.length → j < m → w.cell? ⟨a.block, a.off + i * m + j, none⟩ = some (row i j)) →
      (∀ i j, i < xs.length → j < m → Rep ψ w ((xs.getD i []).getD j .nils) (row i j)) →
      Rep ψ w (.lst t xs) (.slice (some a) xs.length cap)

/-- what is settled stays -/
structure Ext (ψ ψ' : Sig) (w w' : World) : Prop where
  sig : ∀ b k t, ψ b = some (k, t) → ∃ k', ψ' b = some (k', t) ∧ k ≤ k'
  cell : ∀ b k t o, ψ b = some (k, t) → o < k → w'.cell? ⟨b, o, none⟩ = w.cell? ⟨b, o, none⟩
  obj : ∀ b k t c e, ψ b = some (k, t) → 2 ≤ t → w.heap[b]? = some (.cells c e (0, 0)) → ∃ c', w'.heap[b]? = some (.cells c' e (0, 0)) ∧ c'.size = c.size

theorem Ext.refl (ψ : Sig) (w : World) : Ext ψ ψ w w := ⟨fun _ k _ h => ⟨k, h, Nat.le_refl _⟩, fun _ _ _ _ _ _ => rfl, fun _ _ _ c _ _ _ h => ⟨c, h, rfl⟩⟩
theorem Ext.trans {ψ ψ' ψ'' : Sig} {w w' w'' : World} (h : Ext ψ ψ' w w') (g : Ext ψ' ψ'' w' w'') : Ext ψ ψ'' w w'' where
  sig := fun b k t hb => by
    obtain ⟨k', h1, h2⟩ := h.sig b k t hb
    obtain ⟨k'', g1, g2⟩ := g.sig b k' t h1
    exact ⟨k'', g1, Nat.le_trans h2 g2⟩
  cell := fun b k t o hb ho => by
    obtain ⟨k', h1, h2⟩ := h.sig b k t hb
    exact (g.cell b k' t o h1 (Nat.lt_of_lt_of_le ho h2)).trans (h.cell b k t o hb ho)
  obj := fun b k t c e hb ht hh => by
    obtain ⟨k', h1, _⟩ := h.sig b k t hb
    obtain ⟨c', hc, hs⟩ := h.obj b k t c e hb ht hh
    obtain ⟨c'', hc', hs'⟩ := g.obj b k' t c' e h1 ht hc
    exact ⟨c'', hc', hs'.trans hs⟩

theorem Rep.ext {ψ ψ' : Sig} {w w' : World} (hx : Ext ψ ψ' w w') {p : PV} {v : Value} (h : Rep ψ w p v) : Rep ψ' w' p v := by
  induction h with
  | lit h => exact .lit h
  | nils => exact .nils
  | lst row h1 h2 h3 h4 h5 h6 h7 ih =>
    refine .lst row h1 h2 (fun h0 => ?_) ?_ h5 (fun i j hi hj => ?_) ih
    · obtain ⟨hs, k, t', hk, hle⟩ := h3 h0
      obtain ⟨k', hk', hle'⟩ := hx.sig _ _ _ hk
      exact ⟨hs, k', t', hk', Nat.le_trans hle hle'⟩
    · rcases h4 with h4 | h4 | ⟨ht, ho, hs, ⟨k, hk, hle⟩, c, e, hh, hc⟩
      · exact .inl h4
      · exact .inr (.inl h4)
      · obtain ⟨k', hk', hle'⟩ := hx.sig _ _ _ hk
        obtain ⟨c', hc', hs'⟩ := hx.obj _ _ _ _ _ hk ht hh
        exact .inr (.inr ⟨ht, ho, hs, ⟨k', hk', Nat.le_trans hle hle'⟩, c', e, hc', hs'.trans hc⟩)
    · rename_i xs a cap m
      obtain ⟨hs, k, t', hk, hle⟩ := h3 (by omega)
      have : i * m + m ≤ xs.length * m := by rw [← Nat.succ_mul]; exact Nat.mul_le_mul_right _ hi
      exact (hx.cell _ _ _ _ hk (by omega)).trans (h6 i j hi hj)

/-- the first signature: all that lies is settled -/
def sig0 (w : World) : Sig := fun b => match w.heap[b]? with
  | some (.cells c _ _) => some (c.size, 0)
  | _ => none

theorem sig0_of_cell {w : World} {b o : Nat} {v : Value} (h : w.cell? ⟨b, o, none⟩ = some v) : ∃ k, sig0 w b = some (k, 0) ∧ o < k := by
  unfold World.cell? at h
  unfold sig0
  split at h
  · rename_i c e fz hh
    simp only [Option.isSome_none, Bool.false_eq_true, if_false] at h
    rw [hh]
    exact ⟨c.size, rfl, (Array.getElem?_eq_some_iff.1 h).1⟩
  · cases h

/-- what has a type -/
inductive HasT (P : Program) : TypeId → List PV → Prop
  | bool {t : TypeId} {b : Bool} : P.underlying t = some .bool → HasT P t [.lit (.bool b)]
  | int {t : TypeId} {k : IntKind} {n : Int} : P.underlying t = some (.int k) → (Lit.int k n).wf = true → HasT P t [.lit (.int k n)]
  | str {t : TypeId} {s : ByteArray} : P.underlying t = some .string → s.size ≤ maxLen → HasT P t [.lit (.string s)]
  | nils {t e : TypeId} : P.underlying t = some (.slice e) → HasT P t [.nils]
  | lst {t e : TypeId} {xs : List (List PV)} : P.underlying t = some (.slice e) → xs.length ≤ maxLen → (∀ i, i < xs.length → HasT P e (xs.getD i [])) → HasT P t [.lst 0 xs]
  | struct {t : TypeId} {fs : Array Field} (parts : List (List PV)) : P.underlying t = some (.struct fs) → parts.length = fs.size → (∀ i f, fs[i]? = some f → HasT P f.type (parts.getD i [])) → HasT P t parts.flatten

mutual
def PV.bulk : PV → Nat
  | .lit (.string s) => s.size + 1
  | .lit _ => 1
  | .nils => 1
  | .lst _ xs => bulkRows xs + 1
def bulkRows : List (List PV) → Nat
  | [] => 0
  | r :: rs => bulkRow r + bulkRows rs
def bulkRow : List PV → Nat
  | [] => 0
  | p :: ps => p.bulk + bulkRow ps
end
theorem bulkRow_append (a b : List PV) : bulkRow (a ++ b) = bulkRow a + bulkRow b := by
  induction a with
  | nil => simp [bulkRow]
  | cons x a ih => simp only [List.cons_append, bulkRow, ih]; omega
theorem bulkAll_append {H : Type} (a b : List (DataW H)) : Rows.uptoBulkAll (a ++ b) = Rows.uptoBulkAll a + Rows.uptoBulkAll b := by
  induction a with
  | nil => simp [Rows.uptoBulkAll]
  | cons x a ih => simp only [List.cons_append, Rows.uptoBulkAll, ih]; omega

/-- the fields lie one behind the other -/
def contig (P : Program) : List Field → Nat → Nat → Bool
  | [], s, e => s == e
  | f :: fs, s, e => f.offset == s && contig P fs (s + P.cellsOf f.type) e
/-- types of plain data, closed under their parts -/
def plainTs (P : Program) (ts : List TypeId) : Bool := ts.all fun t =>
  match P.underlying t with
  | some .bool | some (.int _) | some .string => true
  | some (.slice e) => ts.contains e && decide (0 < P.cellsOf e)
  | some (.struct fs) => fs.toList.all (fun f => ts.contains f.type) && contig P fs.toList 0 (P.cellsOf t)
  | _ => false

theorem mapM_some {α β : Type} {f : α → Option β} : ∀ {l : List α} {r : List β}, l.mapM f = some r → r.length = l.length ∧ ∀ i (hi : i < l.length), f l[i] = r[i]?
  | [], r, h => by
    simp at h
    subst h
    exact ⟨rfl, fun i hi => absurd hi (by simp)⟩
  | a :: l, r, h => by
    rw [List.mapM_cons] at h
    cases ha : f a with
    | none => simp [ha] at h
    | some b =>
      cases hl : l.mapM f with
      | none => simp [ha, hl] at h
      | some r' =>
        simp [ha, hl] at h
        subst h
        obtain ⟨h1, h2⟩ := mapM_some hl
        refine ⟨by simp [h1], fun i hi => ?_⟩
        cases i with
        | zero => simpa using ha
        | succ i =>
          have := h2 i (by simpa using hi)
          simpa using this

/-- what a stretch of cells holds, as a row of pure values -/
structure RowAt {H : Type} (P : Program) (w : World) (t : TypeId) (cs : List Value) (d : DataW H) (pcs : List PV) : Prop where
  len : pcs.length = cs.length
  rep : ∀ j, j < cs.length → Rep (sig0 w) w (pcs.getD j .nils) (cs.getD j undef)
  typ : HasT P t pcs
  bulk : bulkRow pcs ≤ Rows.uptoBulk d

theorem bulkRows_le {H : Type} : ∀ (xs : List (List PV)) (ds : List (DataW H)), xs.length = ds.length → (∀ i, i < xs.length → ∀ d, ds[i]? = some d → bulkRow (xs.getD i []) ≤ Rows.uptoBulk d) → bulkRows xs ≤ Rows.uptoBulkAll ds
  | [], ds, _, _ => by simp [bulkRows]
  | x :: xs, [], h, _ => by simp at h
  | x :: xs, d :: ds, h, hb => by
    have h0 := hb 0 (by simp) d rfl
    have := bulkRows_le xs ds (by simpa using h) (fun i hi d' hd => by simpa using hb (i + 1) (by simpa using hi) d' (by simpa using hd))
    simp only [bulkRows, Rows.uptoBulkAll]
    simp at h0
    omega

theorem getD_app_l {α : Type} (a b : List α) (i : Nat) (d : α) (h : i < a.length) : (a ++ b).getD i d = a.getD i d := by
  simp only [List.getD_eq_getElem?_getD, List.getElem?_append_left h]
theorem getD_app_r {α : Type} (a b : List α) (i : Nat) (d : α) (h : a.length ≤ i) : (a ++ b).getD i d = b.getD (i - a.length) d := by
  simp only [List.getD_eq_getElem?_getD, List.getElem?_append_right h]

/-- a choice of rows -/
theorem rows_of {Q : Nat → List PV → Prop} : ∀ (n : Nat), (∀ i, i < n → ∃ r, Q i r) → ∃ xs : List (List PV), xs.length = n ∧ ∀ i, i < n → Q i (xs.getD i [])
  | 0, _ => ⟨[], rfl, fun i hi => absurd hi (by omega)⟩
  | n + 1, h => by
    obtain ⟨xs, hl, hx⟩ := rows_of n (fun i hi => h i (by omega))
    obtain ⟨r, hr⟩ := h n (by omega)
    refine ⟨xs ++ [r], by simp [hl], fun i hi => ?_⟩
    by_cases hin : i < n
    · have := hx i hin
      rwa [getD_app_l _ _ _ _ (by omega)]
    · obtain rfl : i = n := by omega
      rw [getD_app_r _ _ _ _ (by omega), hl]
      simpa using hr

theorem fields_row {H : Type} {P : Program} {w : World} {cs : List Value} {g : Field → Option (DataW H × List MemPlace)} :
    ∀ (fl : List Field) (s e : Nat) (xs : List (DataW H × List MemPlace)), contig P fl s e = true → fl.mapM g = some xs → e ≤ cs.length →
      (∀ f ∈ fl, ∀ x, g f = some x → ∃ pcs, RowAt P w f.type ((cs.drop f.offset).take (P.cellsOf f.type)) x.1 pcs) →
      ∃ parts : List (List PV), parts.length = fl.length ∧ s ≤ e ∧ parts.flatten.length = e - s ∧ (∀ i f, fl[i]? = some f → HasT P f.type (parts.getD i [])) ∧
        (∀ j, j < e - s → Rep (sig0 w) w (parts.flatten.getD j .nils) (cs.getD (s + j) undef)) ∧ bulkRow parts.flatten ≤ Rows.uptoBulkAll (xs.map (·.1))
  | [], s, e, xs, hc, hm, _, _ => by
    simp [contig] at hc
    simp at hm
    subst hc hm
    exact ⟨[], rfl, Nat.le_refl _, by simp, fun i f h => by simp at h, fun j hj => by omega, by simp [bulkRow]⟩
  | f :: fl, s, e, xs, hc, hm, he, hg => by
    simp only [contig, Bool.and_eq_true, beq_iff_eq] at hc
    rw [List.mapM_cons] at hm
    cases hf : g f with
    | none => simp [hf] at hm
    | some x =>
      cases hl : fl.mapM g with
      | none => simp [hf, hl] at hm
      | some r =>
        simp [hf, hl] at hm
        subst hm
        obtain ⟨parts, h1, h2, h3, h4, h5, h6⟩ := fields_row fl _ e r hc.2 hl he (fun f' hf' => hg f' (List.mem_cons_of_mem _ hf'))
        obtain ⟨pcs, hp⟩ := hg f (List.mem_cons_self) x hf
        have hlen : pcs.length = P.cellsOf f.type := by
          rw [hp.len, List.length_take, List.length_drop, hc.1]; omega
        refine ⟨pcs :: parts, by simp [h1], by omega, by simp only [List.flatten_cons, List.length_append, h3, hlen]; omega, fun i f' hi => ?_, fun j hj => ?_, ?_⟩
        · cases i with
          | zero => simp at hi; subst hi; simpa using hp.typ
          | succ i => simpa using h4 i f' (by simpa using hi)
        · rw [List.flatten_cons]
          by_cases hjl : j < P.cellsOf f.type
          · rw [getD_app_l _ _ _ _ (by omega)]
            have := hp.rep j (by rw [← hp.len]; omega)
            have e2 : ((cs.drop f.offset).take (P.cellsOf f.type)).getD j undef = cs.getD (s + j) undef := by
              simp only [List.getD_eq_getElem?_getD, List.getElem?_take, List.getElem?_drop, hc.1]
              rw [if_pos hjl]
            rwa [e2] at this
          · rw [getD_app_r _ _ _ _ (by omega), hlen]
            have := h5 (j - P.cellsOf f.type) (by omega)
            rwa [show s + P.cellsOf f.type + (j - P.cellsOf f.type) = s + j by omega] at this
        · rw [List.flatten_cons, bulkRow_append, List.map_cons]
          simp only [Rows.uptoBulkAll]
          have := hp.bulk
          omega

theorem add_add (a : Addr) (n m : Nat) (h : a.spot = none) : (a.add n).add m = ⟨a.block, a.off + n + m, none⟩ := by
  unfold Addr.add
  split <;> split <;> simp_all <;> (cases a; simp_all)

/-- what the row reads of a plain argument lies in memory as a pure value -/
theorem trod_row {H : Type} (enc : TypeId × Value → H) (P : Program) (w : World) (spare : Nat → Bool) (held : Bool) (ts : List TypeId) (hts : plainTs P ts = true) :
    ∀ (fuel : Nat) (t : TypeId) (cs : List Value) (d : DataW H) (ps : List MemPlace), t ∈ ts → DataW.trod enc P w 0 spare held fuel t cs = some (d, ps) → ∃ pcs, RowAt P w t cs d pcs
  | 0, _, _, _, _, _, h => by simp [DataW.trod] at h
  | fuel + 1, t, cs, d, ps, ht, h => by
    have hp := List.all_eq_true.1 hts t ht
    simp only [DataW.trod] at h
    split at h
    · rename_i b hu
      simp at h
      obtain ⟨rfl, _⟩ := h
      exact ⟨[.lit (.bool b)], rfl, fun j hj => by obtain rfl : j = 0 := by simpa using hj
                                                   exact .lit rfl, .bool hu, by simp [bulkRow, PV.bulk, Rows.uptoBulk]⟩
    · rename_i k k' n hu
      split at h
      · rename_i hk
        simp at h
        obtain ⟨rfl, _⟩ := h
        obtain ⟨rfl, hwf⟩ := hk
        exact ⟨[.lit (.int k' n)], rfl, fun j hj => by obtain rfl : j = 0 := by simpa using hj
                                                       exact .lit rfl, .int hu hwf, by simp [bulkRow, PV.bulk, Rows.uptoBulk]⟩
      · cases h
    · rename_i hu; rw [hu] at hp; cases hp
    · rename_i s hu
      split at h
      · rename_i hs
        simp at h
        obtain ⟨rfl, _⟩ := h
        exact ⟨[.lit (.string s)], rfl, fun j hj => by obtain rfl : j = 0 := by simpa using hj
                                                       exact .lit (by simp [flatB, hs]), .str hu hs, by
                                                         have : s.data.toList.length = s.size := by rw [Array.length_toList]; rfl
                                                         simp [bulkRow, PV.bulk, Rows.uptoBulk]⟩
      · cases h
    · rename_i hu; rw [hu] at hp; cases hp
    · rename_i hu; rw [hu] at hp; cases hp
    · rename_i e hu
      simp at h
      obtain ⟨rfl, _⟩ := h
      exact ⟨[.nils], rfl, fun j hj => by obtain rfl : j = 0 := by simpa using hj
                                          exact .nils, .nils hu, by simp [bulkRow, PV.bulk, Rows.uptoBulk]⟩
    · rename_i e a len cap hu
      rw [hu] at hp
      simp only [Bool.and_eq_true, decide_eq_true_eq, List.contains_iff_mem] at hp
      split at h
      · rename_i hc
        obtain ⟨_, hlc, hcm⟩ := hc
        cases hm : (List.range len).mapM (fun i => (w.cells? 0 (a.add (i * P.cellsOf e)) (P.cellsOf e)).bind (DataW.trod enc P w 0 spare held fuel e)) with
        | none => simp [hm] at h
        | some elems =>
          simp only [hm, Option.bind_some, Option.map_eq_some_iff] at h
          obtain ⟨rest, _, h⟩ := h
          simp at h
          obtain ⟨rfl, _⟩ := h
          obtain ⟨hl, hel⟩ := mapM_some hm
          simp only [List.length_range] at hl hel
          have key : ∀ i, i < len → ∃ r, (∃ cs' x, (∀ j, j < P.cellsOf e → w.cell? ((a.add (i * P.cellsOf e)).add j) = some (cs'.getD j undef)) ∧ elems[i]? = some x ∧ cs'.length = P.cellsOf e ∧ RowAt P w e cs' x.1 r) := by
            intro i hi
            have h1 := hel i (by simpa using hi)
            simp only [List.getElem_range] at h1
            have hlt : i < elems.length := by omega
            cases hcs : w.cells? 0 (a.add (i * P.cellsOf e)) (P.cellsOf e) with
            | none => rw [hcs] at h1; simp [hlt] at h1
            | some cs' =>
              obtain ⟨_, hcl, hcc⟩ := World.cells?_some hcs
              rw [hcs, Option.bind_some, List.getElem?_eq_getElem hlt] at h1
              obtain ⟨r, hr⟩ := trod_row enc P w spare held ts hts fuel e cs' _ _ hp.1 h1
              refine ⟨r, cs', elems[i], fun j hj => ?_, List.getElem?_eq_getElem hlt, hcl, hr⟩
              rw [hcc j hj]
              simp [hcl, hj]
          obtain ⟨xs, hxl, hx⟩ := rows_of len key
          have hsp : 0 < len → a.spot = none := fun h0 => by
            obtain ⟨cs', x, hcell, _⟩ := hx 0 h0
            have h0' := hcell 0 hp.2
            have := World.cell?_spot h0'
            simpa [Addr.add] using this
          have hcell : ∀ i j, i < len → j < P.cellsOf e → ∃ v, w.cell? ⟨a.block, a.off + i * P.cellsOf e + j, none⟩ = some v ∧ Rep (sig0 w) w ((xs.getD i []).getD j .nils) v := by
            intro i j hi hj
            obtain ⟨cs', x, hc, _, hcl, hr⟩ := hx i hi
            have h1 := hc j hj
            rw [add_add _ _ _ (hsp (by omega))] at h1
            exact ⟨_, h1, hr.rep j (by omega)⟩
          refine ⟨[.lst 0 xs], rfl, fun j hj => ?_, .lst hu (by omega) (fun i hi => ?_), ?_⟩
          · obtain rfl : j = 0 := by simpa using hj
            show Rep (sig0 w) w (.lst 0 xs) (.slice (some a) len cap)
            rw [← hxl]
            refine .lst (m := P.cellsOf e) (fun i j => (w.cell? ⟨a.block, a.off + i * P.cellsOf e + j, none⟩).getD undef) (by omega) hcm (fun h0 => ⟨hsp (by omega), ?_⟩) (.inl rfl) (fun i hi => ?_) (fun i j hi hj => ?_) (fun i j hi hj => ?_)
            · obtain ⟨v, hv, _⟩ := hcell (xs.length - 1) (P.cellsOf e - 1) (by omega) (by omega)
              obtain ⟨k, hk, hlt⟩ := sig0_of_cell hv
              refine ⟨k, 0, hk, ?_⟩
              have : (xs.length - 1) * P.cellsOf e + P.cellsOf e = xs.length * P.cellsOf e := by
                rw [← Nat.succ_mul]; congr 1; omega
              have := hp.2
              omega
            · obtain ⟨cs', x, _, _, hcl, hr⟩ := hx i (by omega)
              rw [hr.len, hcl]
            · obtain ⟨v, hv, _⟩ := hcell i j (by omega) hj
              rw [hv]; rfl
            · obtain ⟨v, hv, hr⟩ := hcell i j (by omega) hj
              rw [hv]; exact hr
          · obtain ⟨_, _, _, _, _, hr⟩ := hx i (by omega)
            exact hr.typ
          · simp only [bulkRow, PV.bulk, Rows.uptoBulk]
            have := bulkRows_le xs (elems.map (·.1)) (by simp; omega) (fun i hi d' hd => by
              obtain ⟨_, x, _, he, _, hr⟩ := hx i (by omega)
              simp [he] at hd
              subst hd
              exact hr.bulk)
            omega
      · cases h
    · rename_i fs hu
      rw [hu] at hp
      simp only [Bool.and_eq_true, List.all_eq_true, List.contains_iff_mem] at hp
      split at h
      · rename_i hcl
        simp only [Option.map_eq_some_iff] at h
        obtain ⟨xs, hm, h⟩ := h
        simp at h
        obtain ⟨rfl, _⟩ := h
        obtain ⟨parts, h1, h2, h3, h4, h5, h6⟩ := fields_row (P := P) (w := w) (cs := _) fs.toList 0 _ xs hp.2 hm (by omega) (fun f hf x hx => trod_row enc P w spare held ts hts fuel f.type _ x.1 x.2 (hp.1 f hf) hx)
        refine ⟨parts.flatten, by omega, fun j hj => by simpa using h5 j (by omega), .struct parts hu (by simpa using h1) (fun i f hf => h4 i f (by simpa using hf)), ?_⟩
        simp only [Rows.uptoBulk]
        omega
      · cases h
    all_goals first
      | (rename_i hu; rw [hu] at hp; cases hp)
      | cases h
end Go.Proofs.YtliiehfjcplieaaDoor.AM
