/- interleavemade.Expr makes a shaped expression. -/
import Derived.Test.YtliiehfjcplieaaDoorMk
import Derived.Test.YtliiehfjcplieaaDoorSh
import Derived.Test.YtliiehfjcplieaaDoorMix
namespace Go.Proofs.YtliiehfjcplieaaDoor
open Go.RowKit Go.Sort

/-- a tape in block t whose numbers lie below B -/
def Tp (w : World) (B t : Nat) (A : Option Addr) (n cap : Nat) : Prop :=
  B ≤ t ∧ n ≤ 9223372036854775807 ∧ BytesAt w B A n ∧ ∃ at_, at_ ≤ 9223372036854775807 ∧ TapeAt w t A n cap at_
theorem Tp.lt {w : World} {B t : Nat} {A : Option Addr} {n cap : Nat} (h : Tp w B t A n cap) : t < w.heap.size := by
  obtain ⟨_, _, _, _, _, h⟩ := h
  exact (Array.getElem?_eq_some_iff.1 h).1
theorem BytesAt.keep {w w' : World} {B : Nat} {A : Option Addr} {n : Nat} (h : BytesAt w B A n) (hk : ∀ p : Addr, p.block < B → w'.cell? p = w.cell? p) : BytesAt w' B A n := by
  intro i hi
  obtain ⟨b, off, c, hA, hb, h0, h1, hc⟩ := h i hi
  exact ⟨b, off, c, hA, hb, h0, h1, (hk _ hb).trans hc⟩
/-- the tape stands where nothing of it has turned -/
theorem Tp.keep {w w' : World} {B t : Nat} {A : Option Addr} {n cap : Nat} (h : Tp w B t A n cap) (hk : ∀ k, k ≤ t → w'.heap[k]? = w.heap[k]?) : Tp w' B t A n cap := by
  obtain ⟨hB, hn, hA, at_, hat, ht⟩ := h
  exact ⟨hB, hn, hA.keep fun p hp => World.cell?_of_block (w := w) (hk p.block (by omega)), at_, hat, (hk t (Nat.le_refl _)).trans ht⟩
theorem Tp.alloc {w : World} {B t : Nat} {A : Option Addr} {n cap : Nat} (h : Tp w B t A n cap) (o : Obj) : Tp (w.alloc o) B t A n cap :=
  h.keep fun k hk => Below.heap_alloc w o k (by have := h.lt; omega)
theorem Tp.below {w w' : World} {B t : Nat} {A : Option Addr} {n cap : Nat} (h : Tp w B t A n cap) (hb : Below w.heap.size w w') : Tp w' B t A n cap :=
  h.keep fun k hk => hb.block k (by have := h.lt; omega)
theorem Tp.drew {w : World} {B t : Nat} {A : Option Addr} {n cap : Nat} (h : Tp w B t A n cap) : Tp w.drew B t A n cap := h

theorem next_tp (w : World) (B t : Nat) (A : Option Addr) (n cap : Nat) (m : Int) (hm : 1 ≤ m) (hm2 : m ≤ 1000) (h : Tp w B t A n cap) :
    Calls Tryd.prog 30 #[.pointer (some ⟨t, 0, none⟩), .int .i64 m] w fun e w' =>
      ∃ r : Nat, e = .returned (.int .i64 r) ∧ (r : Int) < m ∧ Tp w' B t A n cap ∧ Ch (· = t) w w' := by
  obtain ⟨hB, hn, hA, at_, hat, ht⟩ := h
  refine (next_any w B t A n cap at_ m hm hm2 hn hat ht hA hB).mono ?_
  rintro e w' ⟨r, at', he, hr, hat', ht', hc, _⟩
  refine ⟨r, he, hr, ⟨hB, hn, hA.keep fun p hp => ?_, at', hat', ht'⟩, hc⟩
  by_cases hlt : p.block < w.heap.size
  · exact hc.cell hlt (by show ¬ p.block = t; omega)
  · have := (Array.getElem?_eq_some_iff.1 ht).1
    omega

/-- the maker of loose programs in block mb -/
def Ls (w : World) (mb t : Nat) (line left : Int) : Prop :=
  w.heap[mb]? = some (.cells #[.pointer (some ⟨t, 0, none⟩), .int .i64 line, .int .i64 left] 58 (0, 0))
theorem Ls.lt {w : World} {mb t : Nat} {line left : Int} (h : Ls w mb t line left) : mb < w.heap.size := (Array.getElem?_eq_some_iff.1 h).1
theorem Ls.cell0 {w : World} {mb t : Nat} {line left : Int} (h : Ls w mb t line left) : w.cell? ⟨mb, 0, none⟩ = some (.pointer (some ⟨t, 0, none⟩)) := Lib.cell_of_heap h 0
theorem Ls.ch {w w' : World} {S : Nat → Prop} {mb t : Nat} {line left : Int} (h : Ls w mb t line left) (hc : Ch S w w') (hs : ¬ S mb) : Ls w' mb t line left := hc.at h hs
theorem Ls.alloc {w : World} {mb t : Nat} {line left : Int} (h : Ls w mb t line left) (o : Obj) : Ls (w.alloc o) mb t line left := (Below.heap_alloc w o mb h.lt).trans h

def MExpr (B mb t : Nat) (A : Option Addr) (n cap : Nat) (k : Nat) (w : World) (e : Ending) (w' : World) : Prop :=
  ∃ x v, e = .returned v ∧ ExIn w' w.heap.size w'.heap.size (k + 1) x v ∧ shB (k + 1) x = true ∧ Tp w' B t A n cap ∧ Ch (· = t) w w'

def MadeExprAt (k : Nat) : Prop := ∀ (w : World) (B mb t : Nat) (A : Option Addr) (n cap : Nat) (line left : Int), Tp w B t A n cap → Ls w mb t line left → mb ≠ t →
    Calls Tryd.prog 22 #[.pointer (some ⟨mb, 0, none⟩), .int .i64 k] w (MExpr B mb t A n cap k w)

/-- an expression without operands -/
theorem ExIn.leaf {w : World} {L B d : Nat} (op n : Int) (name : ByteArray) (h1 : -9223372036854775808 ≤ op) (h2 : op ≤ 9223372036854775807) (h3 : -9223372036854775808 ≤ n) (h4 : n ≤ 9223372036854775807) (h5 : name.size ≤ 9223372036854775807) :
    ExIn w L B (d + 1) ⟨op, n, name, []⟩ (.agg #[.int .i64 op, .int .i64 n, .string name, .slice none 0 0]) :=
  ⟨none, 0, rfl, ⟨h1, h2, h3, h4, by simp, h5, fun a ha => by cases ha⟩, fun i hi => by simp at hi⟩
theorem sh_leaf {d : Nat} {x : Ex} (h : headB x = true) (hl : x.l = []) : shB (d + 1) x = true := by simp [shB, h, hl]

/-- writes into the result's block leave the tape -/
theorem Tp.after {w w' : World} {B t R : Nat} {A : Option Addr} {n cap : Nat} (h : Tp w B t A n cap) (hc : Ch (· = R) w w') (hR : t < R) : Tp w' B t A n cap :=
  h.keep fun k hk => hc.block k (by have := h.lt; omega) (by show ¬ k = R; omega)

def nums8 : Array Value := #[.int .i64 0, .int .i64 1, .int .i64 2, .int .i64 3, .int .i64 7, .int .i64 10, .int .i64 100, .int .i64 9223372036854775807]
def num8 : Nat → Int
  | 0 => 0 | 1 => 1 | 2 => 2 | 3 => 3 | 4 => 7 | 5 => 10 | 6 => 100 | _ => 9223372036854775807
theorem nums8_at : ∀ j, j < 8 → nums8[j]? = some (.int .i64 (num8 j))
  | 0, _ => rfl | 1, _ => rfl | 2, _ => rfl | 3, _ => rfl | 4, _ => rfl | 5, _ => rfl | 6, _ => rfl | 7, _ => rfl
  | n + 8, h => absurd h (by omega)
theorem num8_range (j : Nat) : 0 ≤ num8 j ∧ num8 j ≤ 9223372036854775807 := by
  unfold num8; split <;> decide
def names10 : Array Value := #[.string ⟨#[120]⟩, .string ⟨#[121]⟩, .string ⟨#[97]⟩, .string ⟨#[98]⟩, .string ⟨#[118]⟩, .string ⟨#[113]⟩, .string ⟨#[109]⟩, .string ⟨#[116]⟩, .string ⟨#[122, 122]⟩, .string ⟨#[102]⟩]
def name10 : Nat → ByteArray
  | 0 => ⟨#[120]⟩ | 1 => ⟨#[121]⟩ | 2 => ⟨#[97]⟩ | 3 => ⟨#[98]⟩ | 4 => ⟨#[118]⟩ | 5 => ⟨#[113]⟩ | 6 => ⟨#[109]⟩ | 7 => ⟨#[116]⟩ | 8 => ⟨#[122, 122]⟩ | _ => ⟨#[102]⟩
theorem names10_at : ∀ j, j < 10 → names10[j]? = some (.string (name10 j))
  | 0, _ => rfl | 1, _ => rfl | 2, _ => rfl | 3, _ => rfl | 4, _ => rfl | 5, _ => rfl | 6, _ => rfl | 7, _ => rfl | 8, _ => rfl | 9, _ => rfl
  | n + 10, h => absurd h (by omega)
theorem name10_ok (j : Nat) : nameB (name10 j) = true ∧ (name10 j).toList.isEmpty = false ∧ (name10 j).size ≤ 12 := by
  unfold name10; split <;> decide +kernel

/-- the block of the result, before it is written -/
def Res (w : World) (R : Nat) : Prop := w.heap[R]? = some (.cells #[.int .i64 0, .int .i64 0, .string ⟨#[]⟩, .slice none 0 0] 25 (0, 0))
theorem Res.cells {w : World} {R : Nat} (h : Res w R) : w.cell? ⟨R, 0, none⟩ = some (.int .i64 0) ∧ w.cell? ⟨R, 1, none⟩ = some (.int .i64 0) ∧ w.cell? ⟨R, 2, none⟩ = some (.string ⟨#[]⟩) ∧ w.cell? ⟨R, 3, none⟩ = some (.slice none 0 0) :=
  ⟨Lib.cell_of_heap h 0, Lib.cell_of_heap h 1, Lib.cell_of_heap h 2, Lib.cell_of_heap h 3⟩
theorem Res.free {w : World} {R : Nat} (h : Res w R) : w.frozen? ⟨R, 0, none⟩ = false ∧ w.frozen? ⟨R, 1, none⟩ = false ∧ w.frozen? ⟨R, 2, none⟩ = false ∧ w.frozen? ⟨R, 3, none⟩ = false :=
  ⟨Lib.frozen_of_heap h 0, Lib.frozen_of_heap h 1, Lib.frozen_of_heap h 2, Lib.frozen_of_heap h 3⟩
theorem Res.lt {w : World} {R : Nat} (h : Res w R) : R < w.heap.size := (Array.getElem?_eq_some_iff.1 h).1

/-- the result's block, written -/
def put4 (w : World) (R : Nat) (c0 c1 c2 c3 : Value) : World := (((w.setCell ⟨R, 0, none⟩ c0).setCell ⟨R, 1, none⟩ c1).setCell ⟨R, 2, none⟩ c2).setCell ⟨R, 3, none⟩ c3
theorem put4_ch (w : World) (R : Nat) (c0 c1 c2 c3 : Value) : Ch (· = R) w (put4 w R c0 c1 c2 c3) :=
  ((((Ch.refl (· = R) w).setCell (p := ⟨R, 0, none⟩) (.inl rfl) c0).setCell (p := ⟨R, 1, none⟩) (.inl rfl) c1).setCell (p := ⟨R, 2, none⟩) (.inl rfl) c2).setCell (p := ⟨R, 3, none⟩) (.inl rfl) c3
theorem put4_at {w : World} {R : Nat} (h : Res w R) (c0 c1 c2 c3 : Value) : (put4 w R c0 c1 c2 c3).heap[R]? = some (.cells #[c0, c1, c2, c3] 25 (0, 0)) := by
  unfold Res at h
  simp [put4, World.setCell, Array.getElem?_modify, h]
theorem put4_ret {w : World} {R : Nat} (h : Res w R) (c0 c1 c2 c3 : Value) {fn : Func} {r : Nat} {T : Array Value} (hr : fn.results = #[.cell r 25]) (ht : T.getD r undef = .pointer (some ⟨R, 0, none⟩)) :
    (results fn T).run Tryd.prog (put4 w R c0 c1 c2 c3) = .ok (.agg #[c0, c1, c2, c3]) (put4 w R c0 c1 c2 c3) := by
  have e := put4_at h c0 c1 c2 c3
  have e0 : (put4 w R c0 c1 c2 c3).cell? ⟨R, 0, none⟩ = some c0 := Lib.cell_of_heap e 0
  have e1 : (put4 w R c0 c1 c2 c3).cell? ⟨R, 1, none⟩ = some c1 := Lib.cell_of_heap e 1
  have e2 : (put4 w R c0 c1 c2 c3).cell? ⟨R, 2, none⟩ = some c2 := Lib.cell_of_heap e 2
  have e3 : (put4 w R c0 c1 c2 c3).cell? ⟨R, 3, none⟩ = some c3 := Lib.cell_of_heap e 3
  have ht' : T[r]?.getD undef = .pointer (some ⟨R, 0, none⟩) := by simpa using ht
  simp [results, hr, ht', go_sem, e0, e1, e2, e3]
theorem setCell_alloc_old (w : World) (R k : Nat) (v : Value) (o : Obj) (h : R < w.heap.size) : (w.setCell ⟨R, k, none⟩ v).alloc o = (w.alloc o).setCell ⟨R, k, none⟩ v := (World.setCell_alloc_past o R k v h).symm
theorem put4_alloc (w : World) (R : Nat) {c0 c1 c2 c3 : Value} (o : Obj) (h : R < w.heap.size) : (((((w.setCell ⟨R, 0, none⟩ c0).setCell ⟨R, 1, none⟩ c1).setCell ⟨R, 2, none⟩ c2).setCell ⟨R, 3, none⟩ c3).alloc o) = put4 (w.alloc o) R c0 c1 c2 c3 := by
  unfold put4
  rw [setCell_alloc_old _ _ _ _ _ (by simpa [World.setCell] using h), setCell_alloc_old _ _ _ _ _ (by simpa [World.setCell] using h), setCell_alloc_old _ _ _ _ _ (by simpa [World.setCell] using h), setCell_alloc_old _ _ _ _ _ h]
theorem put4_size (w : World) (R : Nat) (c0 c1 c2 c3 : Value) : (put4 w R c0 c1 c2 c3).heap.size = w.heap.size := by simp [put4, World.setCell]

/-- what stands throughout the statement that picks a name -/
def RegN (mb t N : Nat) (w : World) : Prop := w.cell? ⟨mb, 0, none⟩ = some (.pointer (some ⟨t, 0, none⟩)) ∧ ∀ j, j < 10 → w.cell? ⟨N, j, none⟩ = some (.string (name10 j))
def RegM (mb t : Nat) (w : World) : Prop := w.cell? ⟨mb, 0, none⟩ = some (.pointer (some ⟨t, 0, none⟩))
theorem RegN.ch {mb t N : Nat} {w w' : World} (h : RegN mb t N w) (hc : Ch (· = t) w w') (hne : mb ≠ t) (hN : N ≠ t) (h1 : mb < w.heap.size) (h2 : N < w.heap.size) : RegN mb t N w' :=
  ⟨(hc.cell (p := ⟨mb, 0, none⟩) h1 hne).trans h.1, fun j hj => (hc.cell (p := ⟨N, j, none⟩) h2 hN).trans (h.2 j hj)⟩
theorem RegN.below {mb t N : Nat} {w w' : World} (h : RegN mb t N w) (hc : Below w.heap.size w w') (h1 : mb < w.heap.size) (h2 : N < w.heap.size) : RegN mb t N w' :=
  ⟨(hc.cell (p := ⟨mb, 0, none⟩) h1).trans h.1, fun j hj => (hc.cell (p := ⟨N, j, none⟩) h2).trans (h.2 j hj)⟩
theorem RegN.put4 {mb t N R : Nat} {w : World} {c0 c1 c2 c3 : Value} (h : RegN mb t N w) (h1 : mb ≠ R) (h2 : N ≠ R) : RegN mb t N (put4 w R c0 c1 c2 c3) := by
  have hlt : ∀ {k o v}, w.cell? ⟨k, o, none⟩ = some v → k < w.heap.size := fun hc => block_lt_of_cell hc
  exact ⟨((put4_ch w R c0 c1 c2 c3).cell (p := ⟨mb, 0, none⟩) (hlt h.1) h1).trans h.1, fun j hj => ((put4_ch w R c0 c1 c2 c3).cell (p := ⟨N, j, none⟩) (hlt (h.2 j hj)) h2).trans (h.2 j hj)⟩
theorem idx_of (a b : Nat) (h : (a : Int) < 10) (hb : (b : Int) < 8) : ∃ ix : Nat, (a : Int).tmod (3 + (b : Int)) = (ix : Int) ∧ ix < 10 ∧ IntKind.i64.wrap (3 + (b : Int)) = 3 + (b : Int) ∧ (3 + (b : Int) == 0) = false ∧ (ix : Int) < 10 ∧ IntKind.i64.wrap (ix : Int) = (ix : Int) := by
  have h1 : a % (3 + b) < 10 := Nat.lt_of_le_of_lt (Nat.mod_le _ _) (by omega)
  refine ⟨a % (3 + b), ?_, h1, IntWalk.i64_in _ (by omega), ?_, by omega, IntWalk.i64_in _ (by omega)⟩
  · have e : (3 : Int) + (b : Int) = ((3 + b : Nat) : Int) := by omega
    rw [e, Int.tmod_eq_emod_of_nonneg (by omega)]
    rfl
  · exact beq_eq_false_iff_ne.2 (by omega)
theorem nm_empty : (⟨#[]⟩ : ByteArray).toList.isEmpty = true := by decide +kernel

set_option maxHeartbeats 400000 in
theorem name_any (s : ByteArray) (w : World) :
    Calls Tryd.prog 51 #[.string s] w fun e w' => e = .returned (.agg #[.int .i64 2, .int .i64 0, .string s, .slice none 0 0]) ∧ Below w.heap.size w w' := by
  go_enter Tryd.func51, Tryd.ntmps51
  go_wp2
  refine bodyPost_ret (v := .agg #[.int .i64 2, .int .i64 0, .string s, .slice none 0 0]) (by simp [results, Tryd.results51, go_sem]) rfl ⟨rfl, ?_⟩
  exact (Below.refl _ _).alloc (Nat.le_refl _) _

def BinPost (op : Int) (o1 m1 : Int) (s1 : ByteArray) (A1 : Option Addr) (k1 c1 : Nat) (o2 m2 : Int) (s2 : ByteArray) (A2 : Option Addr) (k2 c2 : Nat) (w : World) (e : Ending) (w' : World) : Prop :=
  ∃ G, e = .returned (.agg #[.int .i64 op, .int .i64 0, .string ⟨#[]⟩, .slice (some ⟨G, 0, none⟩) 2 2]) ∧ w.heap.size ≤ G ∧ w'.heap[G]? = some (.cells #[.int .i64 o1, .int .i64 m1, .string s1, .slice A1 k1 c1, .int .i64 o2, .int .i64 m2, .string s2, .slice A2 k2 c2] 25 (0, 0)) ∧ Below w.heap.size w w'
set_option maxHeartbeats 400000 in
theorem binary_any (op : Int) (o1 m1 : Int) (s1 : ByteArray) (A1 : Option Addr) (k1 c1 : Nat) (o2 m2 : Int) (s2 : ByteArray) (A2 : Option Addr) (k2 c2 : Nat) (w : World) :
    Calls Tryd.prog 52 #[.int .i64 op, .agg #[.int .i64 o1, .int .i64 m1, .string s1, .slice A1 k1 c1], .agg #[.int .i64 o2, .int .i64 m2, .string s2, .slice A2 k2 c2]] w (BinPost op o1 m1 s1 A1 k1 c1 o2 m2 s2 A2 k2 c2 w) := by
  go_enter Tryd.func52, Tryd.ntmps52
  go_wp2
  refine bodyPost_ret (v := .agg #[.int .i64 op, .int .i64 0, .string ⟨#[]⟩, .slice (some ⟨w.heap.size + 3, 0, none⟩) 2 2]) (by simp [results, Tryd.results52, go_sem]) rfl ⟨w.heap.size + 3, rfl, by omega, ?_, ?_⟩
  · have h := heap_alloc_new (((w.alloc (.cells #[.int .i64 o1, .int .i64 m1, .string s1, .slice A1 k1 c1] 25)).alloc (.cells #[.int .i64 o2, .int .i64 m2, .string s2, .slice A2 k2 c2] 25)).alloc (.cells #[.int .i64 op, .int .i64 0, .string ⟨#[]⟩, .slice (some ⟨w.heap.size + 3, 0, none⟩) 2 2] 25)) (.cells #[.int .i64 o1, .int .i64 m1, .string s1, .slice A1 k1 c1, .int .i64 o2, .int .i64 m2, .string s2, .slice A2 k2 c2] 25)
    have hz : (((w.alloc (.cells #[.int .i64 o1, .int .i64 m1, .string s1, .slice A1 k1 c1] 25)).alloc (.cells #[.int .i64 o2, .int .i64 m2, .string s2, .slice A2 k2 c2] 25)).alloc (.cells #[.int .i64 op, .int .i64 0, .string ⟨#[]⟩, .slice (some ⟨w.heap.size + 3, 0, none⟩) 2 2] 25)).heap.size = w.heap.size + 3 := by simp
    rw [hz] at h
    exact h
  · exact (((((Below.refl _ _).alloc (Nat.le_refl _) _).alloc (by simp) _).alloc (by simp; omega) _).alloc (by simp; omega) _)

/-- what is known of a world on the way: the tape, the maker, the result's block (in R), and that of what was there the tape alone has turned -/
structure St (w0 : World) (B mb t : Nat) (A : Option Addr) (n cap : Nat) (line left : Int) (w : World) : Prop where
  T : Tp w B t A n cap
  L : Ls w mb t line left
  R : Res w w0.heap.size
  D : Ch (· = t) w0 w
theorem St.next {w0 w w' : World} {B mb t : Nat} {A : Option Addr} {n cap : Nat} {line left : Int} (h : St w0 B mb t A n cap line left w) (hne : mb ≠ t) (ht : t < w0.heap.size) (hT : Tp w' B t A n cap) (hc : Ch (· = t) w w') : St w0 B mb t A n cap line left w' :=
  ⟨hT, h.L.ch hc hne, hc.at h.R (by show ¬ w0.heap.size = t; omega), h.D.trans hc⟩
theorem St.below {w0 w w' : World} {B mb t : Nat} {A : Option Addr} {n cap : Nat} {line left : Int} (h : St w0 B mb t A n cap line left w) (hb : Below w.heap.size w w') : St w0 B mb t A n cap line left w' :=
  ⟨h.T.below hb, (hb.block _ h.L.lt).trans h.L, (hb.block _ h.R.lt).trans h.R, h.D.trans (Ch.of_below hb)⟩
theorem St.alloc {w0 w : World} {B mb t : Nat} {A : Option Addr} {n cap : Nat} {line left : Int} (h : St w0 B mb t A n cap line left w) (o : Obj) : St w0 B mb t A n cap line left (w.alloc o) :=
  h.below ((Below.refl _ _).alloc (Nat.le_refl _) o)
theorem St.drew {w0 w : World} {B mb t : Nat} {A : Option Addr} {n cap : Nat} {line left : Int} (h : St w0 B mb t A n cap line left w) : St w0 B mb t A n cap line left w.drew :=
  ⟨h.T, h.L, h.R, h.D.drew⟩

def names5 : Array Value := #[.string ⟨#[113]⟩, .string ⟨#[113]⟩, .string ⟨#[113]⟩, .string ⟨#[120]⟩, .string ⟨#[109]⟩]
def name5 : Nat → ByteArray
  | 0 => ⟨#[113]⟩ | 1 => ⟨#[113]⟩ | 2 => ⟨#[113]⟩ | 3 => ⟨#[120]⟩ | _ => ⟨#[109]⟩
theorem names5_at : ∀ j, j < 5 → names5[j]? = some (.string (name5 j))
  | 0, _ => rfl | 1, _ => rfl | 2, _ => rfl | 3, _ => rfl | 4, _ => rfl
  | n + 5, h => absurd h (by omega)
theorem name5_ok (j : Nat) : nameB (name5 j) = true ∧ (name5 j).toList.isEmpty = false ∧ (name5 j).size ≤ 12 := by
  unfold name5; split <;> decide +kernel
/-- a row of the five names in block g -/
def Row5 (w : World) (g : Nat) : Prop := w.heap[g]? = some (.cells names5 9 (0, 0))
theorem Row5.cell {w : World} {g : Nat} (h : Row5 w g) {j : Nat} (hj : j < 5) : w.cell? ⟨g, j, none⟩ = some (.string (name5 j)) := (Lib.cell_of_heap h j).trans (names5_at j hj)
theorem Row5.lt {w : World} {g : Nat} (h : Row5 w g) : g < w.heap.size := (Array.getElem?_eq_some_iff.1 h).1
def SQ (mb t : Nat) (line left : Int) (g : Nat) (w : World) : Prop := Ls w mb t line left ∧ Row5 w g

/-- an expression in one block, as a slice of one -/
def Kid (w : World) (G : Nat) (y : Ex) (A : Option Addr) (c : Nat) : Prop :=
  w.heap[G]? = some (.cells #[.int .i64 y.op, .int .i64 y.n, .string y.name, .slice A y.l.length c] 25 (0, 0))
theorem ExIn.one {w : World} {L B d G : Nat} {y : Ex} {A : Option Addr} {c : Nat} {op n : Int} {name : ByteArray} (hk : Kid w G y A c) (hL : L ≤ G) (hB : G < B)
    (hy : ExIn w L B d y (.agg #[.int .i64 y.op, .int .i64 y.n, .string y.name, .slice A y.l.length c]))
    (h1 : -9223372036854775808 ≤ op) (h2 : op ≤ 9223372036854775807) (h3 : -9223372036854775808 ≤ n) (h4 : n ≤ 9223372036854775807) (h5 : name.size ≤ 9223372036854775807) :
    ExIn w L B (d + 1) ⟨op, n, name, [y]⟩ (.agg #[.int .i64 op, .int .i64 n, .string name, .slice (some ⟨G, 0, none⟩) 1 1]) := by
  refine ⟨some ⟨G, 0, none⟩, 1, rfl, ⟨h1, h2, h3, h4, by simp, h5, fun a ha _ => by injection ha with ha; subst ha; exact hL⟩, fun i hi => ?_⟩
  obtain rfl : i = 0 := by simp at hi; exact hi
  exact ⟨G, 0, A, c, rfl, hB, Lib.cell_of_heap hk 0, Lib.cell_of_heap hk 1, Lib.cell_of_heap hk 2, Lib.cell_of_heap hk 3, hy⟩
theorem sh_one {d : Nat} {x y : Ex} (h : headB x = true) (hl : x.l = [y]) (hy : shB d y = true) : shB (d + 1) x = true := by simp [shB, h, hl, hy]

/-- THE END OF A STATEMENT THAT MAKES AN EXPRESSION OF ONE OPERAND -/
theorem one_end {w wE : World} {B mb t : Nat} {A : Option Addr} {n cap : Nat} {line left : Int} {j G : Nat} {y : Ex} {A' : Option Addr} {c : Nat} {op : Int} {name : ByteArray}
    (hs : St w B mb t A n cap line left wE) (ht : t < w.heap.size) (hk : Kid wE G y A' c) (hG : w.heap.size < G)
    (hy : ExIn wE (w.heap.size + 1) wE.heap.size (j + 1) y (.agg #[.int .i64 y.op, .int .i64 y.n, .string y.name, .slice A' y.l.length c])) (hsy : shB (j + 1) y = true)
    (h1 : -9223372036854775808 ≤ op) (h2 : op ≤ 9223372036854775807) (h5 : name.size ≤ 12) (hh : headB ⟨op, 0, name, [y]⟩ = true) :
    MExpr B mb t A n cap (j + 1) w (.returned (.agg #[.int .i64 op, .int .i64 0, .string name, .slice (some ⟨G, 0, none⟩) 1 1])) (put4 wE w.heap.size (.int .i64 op) (.int .i64 0) (.string name) (.slice (some ⟨G, 0, none⟩) 1 1)) := by
  have hGlt : G < wE.heap.size := (Array.getElem?_eq_some_iff.1 hk).1
  have hc := put4_ch wE w.heap.size (.int .i64 op) (.int .i64 0) (.string name) (.slice (some ⟨G, 0, none⟩) 1 1)
  have hx := ExIn.one (op := op) (n := 0) (name := name) hk hG hGlt hy h1 h2 (by omega) (by omega) (by omega)
  refine ⟨⟨op, 0, name, [y]⟩, _, rfl, ?_, sh_one hh rfl hsy, hs.T.after hc ht, hs.D.after hc (Nat.le_refl _)⟩
  exact ExIn.keep (by omega) hc.size (fun p hp1 hp2 => hc.cell hp2 (by show ¬ p.block = w.heap.size; omega)) hx

/-- two expressions in one block -/
def Kids (w : World) (G : Nat) (y : Ex) (A : Option Addr) (c : Nat) (z : Ex) (A2 : Option Addr) (c2 : Nat) : Prop :=
  w.heap[G]? = some (.cells #[.int .i64 y.op, .int .i64 y.n, .string y.name, .slice A y.l.length c, .int .i64 z.op, .int .i64 z.n, .string z.name, .slice A2 z.l.length c2] 25 (0, 0))
theorem ExIn.two {w : World} {L B d G : Nat} {y z : Ex} {A A2 : Option Addr} {c c2 : Nat} {op : Int} (hk : Kids w G y A c z A2 c2) (hL : L ≤ G) (hB : G < B)
    (hy : ExIn w L B d y (.agg #[.int .i64 y.op, .int .i64 y.n, .string y.name, .slice A y.l.length c])) (hz : ExIn w L B d z (.agg #[.int .i64 z.op, .int .i64 z.n, .string z.name, .slice A2 z.l.length c2]))
    (h1 : -9223372036854775808 ≤ op) (h2 : op ≤ 9223372036854775807) :
    ExIn w L B (d + 1) ⟨op, 0, ⟨#[]⟩, [y, z]⟩ (.agg #[.int .i64 op, .int .i64 0, .string ⟨#[]⟩, .slice (some ⟨G, 0, none⟩) 2 2]) := by
  refine ⟨some ⟨G, 0, none⟩, 2, rfl, ⟨h1, h2, (by show (-9223372036854775808 : Int) ≤ 0; decide), (by show (0 : Int) ≤ 9223372036854775807; decide), by simp, (by show (0 : Nat) ≤ 9223372036854775807; decide), fun a ha _ => by injection ha with ha; subst ha; exact hL⟩, fun i hi => ?_⟩
  have hi' : i = 0 ∨ i = 1 := by simp at hi; omega
  rcases hi' with rfl | rfl
  · exact ⟨G, 0, A, c, rfl, hB, Lib.cell_of_heap hk 0, Lib.cell_of_heap hk 1, Lib.cell_of_heap hk 2, Lib.cell_of_heap hk 3, hy⟩
  · exact ⟨G, 0, A2, c2, rfl, hB, Lib.cell_of_heap hk 4, Lib.cell_of_heap hk 5, Lib.cell_of_heap hk 6, Lib.cell_of_heap hk 7, hz⟩
theorem sh_two {d : Nat} {x y z : Ex} (h : headB x = true) (hl : x.l = [y, z]) (hy : shB d y = true) (hz : shB d z = true) : shB (d + 1) x = true := by simp [shB, h, hl, hy, hz]
theorem head_binary (y z : Ex) {op : Int} (h1 : 6 ≤ op) (h2 : op ≤ 18) : headB ⟨op, 0, ⟨#[]⟩, [y, z]⟩ = true := by
  refine head_yes (n := false) ?_ ?_ nm_empty (.inl rfl) rfl (.inr rfl)
  · have : arity op = 2 := by unfold arity; rw [if_neg (by omega), if_neg (by omega), if_pos (by omega)]
    simp [this]
  · simp [namedB]; omega
/-- THE END OF A STATEMENT THAT MAKES AN EXPRESSION OF TWO OPERANDS -/
theorem two_end {w wE : World} {B mb t : Nat} {A : Option Addr} {n cap : Nat} {line left : Int} {j G : Nat} {y z : Ex} {A' A2 : Option Addr} {c c2 : Nat} {op : Int}
    (hs : St w B mb t A n cap line left wE) (ht : t < w.heap.size) (hk : Kids wE G y A' c z A2 c2) (hG : w.heap.size < G)
    (hy : ExIn wE (w.heap.size + 1) wE.heap.size (j + 1) y (.agg #[.int .i64 y.op, .int .i64 y.n, .string y.name, .slice A' y.l.length c])) (hsy : shB (j + 1) y = true)
    (hz : ExIn wE (w.heap.size + 1) wE.heap.size (j + 1) z (.agg #[.int .i64 z.op, .int .i64 z.n, .string z.name, .slice A2 z.l.length c2])) (hsz : shB (j + 1) z = true)
    (h1 : 6 ≤ op) (h2 : op ≤ 18) :
    MExpr B mb t A n cap (j + 1) w (.returned (.agg #[.int .i64 op, .int .i64 0, .string ⟨#[]⟩, .slice (some ⟨G, 0, none⟩) 2 2])) (put4 wE w.heap.size (.int .i64 op) (.int .i64 0) (.string ⟨#[]⟩) (.slice (some ⟨G, 0, none⟩) 2 2)) := by
  have hGlt : G < wE.heap.size := (Array.getElem?_eq_some_iff.1 hk).1
  have hc := put4_ch wE w.heap.size (.int .i64 op) (.int .i64 0) (.string ⟨#[]⟩) (.slice (some ⟨G, 0, none⟩) 2 2)
  have hx := ExIn.two (op := op) hk hG hGlt hy hz (by omega) (by omega)
  refine ⟨⟨op, 0, ⟨#[]⟩, [y, z]⟩, _, rfl, ?_, sh_two (head_binary y z h1 h2) rfl hsy hsz, hs.T.after hc ht, hs.D.after hc (Nat.le_refl _)⟩
  exact ExIn.keep (by omega) hc.size (fun p hp1 hp2 => hc.cell hp2 (by show ¬ p.block = w.heap.size; omega)) hx
/-- an expression stays where the tape alone turns -/
theorem ExIn.ch {w w' : World} {L t d : Nat} {x : Ex} {v : Value} (h : ExIn w L w.heap.size d x v) (hc : Ch (· = t) w w') (ht : t < L) : ExIn w' L w'.heap.size d x v :=
  ExIn.keep (Nat.le_refl _) hc.size (fun p hp1 hp2 => hc.cell hp2 (by show ¬ p.block = t; omega)) h
theorem ExIn.drewn {w : World} {L B d : Nat} {x : Ex} {v : Value} (h : ExIn w L B d x v) : ExIn w.drew L B d x v :=
  ExIn.keep (w := w) (w' := w.drew) (Nat.le_refl _) (Nat.le_refl _) (fun _ _ _ => rfl) h
theorem head_unary (y : Ex) {op : Int} (h : op = 4 ∨ op = 5) : headB ⟨op, 0, ⟨#[]⟩, [y]⟩ = true := by
  rcases h with rfl | rfl <;> exact head_yes (n := false) rfl rfl nm_empty (.inl rfl) rfl (.inr rfl)
theorem made_call {j : Nat} (ih : MadeExprAt j) (m : Int) (hm : m = (j : Int)) {w0 w : World} {B mb t : Nat} {A : Option Addr} {n cap : Nat} {line left : Int} (h : St w0 B mb t A n cap line left w) (hne : mb ≠ t) (ht : t < w0.heap.size) :
    Calls Tryd.prog 22 #[.pointer (some ⟨mb, 0, none⟩), .int .i64 m] w fun e w' => ∃ (y : Ex) (A' : Option Addr) (c : Nat), e = .returned (.agg #[.int .i64 y.op, .int .i64 y.n, .string y.name, .slice A' y.l.length c]) ∧
      ExIn w' (w0.heap.size + 1) w'.heap.size (j + 1) y (.agg #[.int .i64 y.op, .int .i64 y.n, .string y.name, .slice A' y.l.length c]) ∧ shB (j + 1) y = true ∧ St w0 B mb t A n cap line left w' ∧ Ch (· = t) w w' := by
  subst hm
  refine (ih w B mb t A n cap line left h.T h.L hne).mono ?_
  rintro e w' ⟨y, v, rfl, hy, hs, hT, hc⟩
  obtain ⟨A', c, rfl, _⟩ := id hy
  have := h.R.lt
  exact ⟨y, A', c, rfl, ExIn.keep (by omega) (Nat.le_refl _) (fun _ _ _ => rfl) hy, hs, h.next hne ht hT hc, hc⟩

set_option maxHeartbeats 4000000 in
set_option maxRecDepth 100000 in
theorem made_step (k : Nat) (hk : k ≤ 5) (hih : ∀ j, k = j + 1 → MadeExprAt j) (w : World) (B mb t : Nat) (A : Option Addr) (n cap : Nat) (line left : Int) (hT : Tp w B t A n cap) (hL : Ls w mb t line left) (hne : mb ≠ t) :
    Calls Tryd.prog 22 #[.pointer (some ⟨mb, 0, none⟩), .int .i64 k] w (MExpr B mb t A n cap k w) := by
  have l0 := hL.cell0
  have hmb := hL.lt
  have ht := hT.lt
  go_enter Tryd.func22, Tryd.ntmps22
  go_wp2_with fail
  refine (next_tp _ B t A n cap 20 (by omega) (by omega) ((hT.alloc _).alloc _)).mono ?_
  rintro e w1 ⟨r, rfl, hr, T1, C1⟩
  have L1 := ((hL.alloc _).alloc _).ch C1 hne
  have l1 := L1.cell0
  have R1 : Res w1 w.heap.size := C1.at (heap_new1 _ _ _) (by show ¬ w.heap.size = t; omega)
  have N1 : w1.heap[w.heap.size + 1]? = some (.cells names10 9 (0, 0)) := C1.at (heap_new2 _ _ _) (by show ¬ w.heap.size + 1 = t; omega)
  have D1 : Ch (· = t) w w1 := (((Ch.refl _ _).alloc _).alloc _).trans C1
  have z1 : w.heap.size + 1 < w1.heap.size := (Array.getElem?_eq_some_iff.1 N1).1
  have hmb1 : mb < w1.heap.size := by omega
  clear C1 l0
  obtain ⟨a0, a1, a2, a3⟩ := R1.cells
  obtain ⟨f0, f1, f2, f3⟩ := R1.free
  have HN1 := Lib.hid N1
  clear N1
  by_cases cA : r < 4 ∨ (k = 0 ∧ r < 10)
  · -- a number
    have hk0 : decide ((r : Int) < 4) = true ∨ (decide ((r : Int) < 4) = false ∧ ((k : Int) == 0) = true ∧ decide ((r : Int) < 10) = true) := by
      by_cases h : r < 4
      · exact .inl (by simp; omega)
      · exact .inr ⟨by simp; omega, by simp; omega, by simp; omega⟩
    rcases hk0 with e1 | ⟨e1, e2, e3⟩
    all_goals
      go_wp2_with fail
      refine (next_tp _ B t A n cap 8 (by omega) (by omega) (T1.alloc _)).mono ?_
      rintro e w2 ⟨r2, rfl, hr2, T2, C2⟩
      have R2 : Res w2 w.heap.size := C2.at ((Below.heap_alloc _ _ _ (by omega)).trans R1) (by show ¬ w.heap.size = t; omega)
      have M2 : w2.heap[w1.heap.size]? = some (.cells nums8 2 (0, 0)) := C2.at (heap_alloc_new w1 _) (by show ¬ w1.heap.size = t; omega)
      have D2 : Ch (· = t) w w2 := (D1.alloc _).trans C2
      have hcell := (Lib.cell_of_heap M2 r2).trans (nums8_at r2 (by omega))
      obtain ⟨a0, a1, a2, a3⟩ := R2.cells
      obtain ⟨f0, f1, f2, f3⟩ := R2.free
      clear M2 C2
      go_wp2_with fail
      refine bodyPost_ret (put4_ret R2 _ _ _ _ rfl rfl) rfl ?_
      have hnr := num8_range r2
      refine ⟨⟨1, num8 r2, ⟨#[]⟩, []⟩, _, rfl, ExIn.leaf _ _ _ (by omega) (by omega) (by omega) (by omega) (by decide), sh_leaf (head_yes (n := false) rfl rfl nm_empty (.inl rfl) (by simp; omega) (.inl rfl)) rfl, T2.after (put4_ch _ _ _ _ _ _) ht, D2.after (put4_ch _ _ _ _ _ _) (Nat.le_refl _)⟩
  by_cases cB : r < 8 ∨ k = 0
  · have e1 : decide ((r : Int) < 4) = false := by simp; omega
    have hk0 : decide ((r : Int) < 8) = true ∧ ((k : Int) == 0) = false ∨ decide ((r : Int) < 8) = true ∧ ((k : Int) == 0) = true ∧ decide ((r : Int) < 10) = false ∨ (decide ((r : Int) < 8) = false ∧ ((k : Int) == 0) = true ∧ decide ((r : Int) < 10) = false) := by
      by_cases h : k = 0
      · by_cases h' : r < 8
        · exact .inr (.inl ⟨by simp; omega, by simp; omega, by simp; omega⟩)
        · exact .inr (.inr ⟨by simp; omega, by simp; omega, by simp; omega⟩)
      · exact .inl ⟨by simp; omega, by simp; omega⟩
    rcases hk0 with ⟨e2, e3⟩ | ⟨e2, e3, e4⟩ | ⟨e2, e3, e4⟩
    all_goals
      go_wp2_with fail
      have HS1 : RegN mb t (w.heap.size + 1) w1.drew := ⟨l1, fun j hj => (Lib.cell_of_heap HN1.out j).trans (names10_at j hj)⟩
      have D1d : Ch (· = t) w w1.drew := D1.drew
      have nz : Nonempty (SW (RegN mb t (w.heap.size + 1))) := ⟨⟨_, HS1⟩⟩
      have s1 : ∀ p : SW (RegN mb t (w.heap.size + 1)), p.w.cell? ⟨mb, 0, none⟩ = some (.pointer (some ⟨t, 0, none⟩)) := fun p => p.h.1
      refine wp_region_mixO (RegN mb t (w.heap.size + 1)) (by kernel_rfl) (by kernel_rfl) HS1 ?_
      refine mixO_take 7 (by kernel_rfl) ?_
      simp only [List.take_succ_cons, List.take_zero, List.drop_succ_cons, List.drop_zero]
      repeat (go_big_quiet_step (fail))
      refine wpQuiet_nil ?_
      refine mixO_link rfl rfl (fun K hK => ?_)
      go_simp
      refine (next_tp _ B t A n cap 10 (by omega) (by omega) (show Tp w1.drew B t A n cap from T1)).mono ?_
      rintro e w2 ⟨r2, rfl, hr2, T2, C2⟩
      have D2 := D1d.trans C2
      have R2 : Res w2 w.heap.size := C2.at (show Res w1.drew w.heap.size from R1) (by show ¬ w.heap.size = t; omega)
      have HS2 := HS1.ch C2 hne (by omega) hmb1 z1
      refine hK _ _ HS2 ?_
      clear hK K
      refine mixO_take 4 (by kernel_rfl) ?_
      simp only [List.take_succ_cons, List.take_zero, List.drop_succ_cons, List.drop_zero]
      repeat (go_big_quiet_step (fail))
      refine wpQuiet_nil ?_
      refine mixO_link rfl rfl (fun K hK => ?_)
      go_simp
      refine (next_tp _ B t A n cap 8 (by omega) (by omega) T2).mono ?_
      rintro e w3 ⟨r3, rfl, hr3, T3, C3⟩
      have D3 := D2.trans C3
      have R3 : Res w3 w.heap.size := C3.at R2 (by show ¬ w.heap.size = t; omega)
      have HS3 := HS2.ch C3 hne (by omega) (by have := C2.size; show mb < w2.heap.size; exact Nat.lt_of_lt_of_le hmb1 this) (by have := C2.size; exact Nat.lt_of_lt_of_le z1 this)
      obtain ⟨ix, hix, hix2, hx1, hx2, hx3, hx4⟩ := idx_of r2 r3 hr2 hr3
      have s2 : ∀ p : SW (RegN mb t (w.heap.size + 1)), p.w.cell? ⟨w.heap.size + 1, ix, none⟩ = some (.string (name10 ix)) := fun p => p.h.2 ix hix2
      refine hK _ _ HS3 ?_
      clear hK K
      refine mixO_take 4 (by kernel_rfl) ?_
      simp only [List.take_succ_cons, List.take_zero, List.drop_succ_cons, List.drop_zero]
      repeat (go_big_quiet_step (fail))
      refine wpQuiet_nil ?_
      refine mixO_link rfl rfl (fun K hK => ?_)
      go_simp
      refine (name_any _ _).mono ?_
      rintro e w4 ⟨rfl, hb4⟩
      have T4 := T3.below hb4
      have D4 := D3.trans (Ch.of_below hb4)
      have R4 : Res w4 w.heap.size := (hb4.block _ R3.lt).trans R3
      have HS4 := HS3.below hb4 (by have h1 := C2.size; have h2 := C3.size; exact Nat.lt_of_lt_of_le hmb1 (Nat.le_trans h1 h2)) (by have h1 := C2.size; have h2 := C3.size; exact Nat.lt_of_lt_of_le z1 (Nat.le_trans h1 h2))
      obtain ⟨b0, b1, b2, b3⟩ := R4.cells
      obtain ⟨g0, g1, g2, g3⟩ := R4.free
      refine hK _ _ HS4 ?_
      clear hK K
      refine mixO_link rfl rfl (fun K hK => ?_)
      go_simp
      refine hK _ _ (HS4.put4 (by omega) (by omega)) ?_
      clear hK K
      refine mixO_nil ?_
      go_wp2_with fail
      refine bodyPost_ret (put4_ret R4 _ _ _ _ rfl rfl) rfl ?_
      have hno := name10_ok ix
      refine ⟨⟨2, 0, name10 ix, []⟩, _, rfl, ExIn.leaf _ _ _ (by omega) (by omega) (by omega) (by omega) (by omega), sh_leaf (head_yes (n := true) rfl rfl hno.2.1 (.inr hno.1) rfl (.inr rfl)) rfl, T4.after (put4_ch _ _ _ _ _ _) ht, D4.after (put4_ch _ _ _ _ _ _) (Nat.le_refl _)⟩
  have e1 : decide ((r : Int) < 4) = false := by simp; omega
  have e2 : ((k : Int) == 0) = false := by simp; omega
  have e3 : decide ((r : Int) < 8) = false := by simp; omega
  by_cases cC : r = 8
  · have e4 : ((r : Int) == 8) = true := by simp; omega
    clear cC
    go_wp2_with fail
    obtain ⟨j, hj⟩ : ∃ j, k = j + 1 := ⟨k - 1, by omega⟩
    have ih := hih j hj
    have HJ := Lib.hid hj
    have hw1 : IntKind.i64.wrap ((k : Int) - 1) = (j : Int) := by rw [IntWalk.i64_in _ (by omega)]; omega
    have Z1 : St w B mb t A n cap line left w1.drew := ⟨T1, L1, R1, D1.drew⟩
    clear hj hih a0 a1 a2 a3 f0 f1 f2 f3 T1 L1 R1 D1 l1 cA cB
    have nz : Nonempty (SW (fun w' => Ls w' mb t line left)) := ⟨⟨_, Z1.L⟩⟩
    have s1 : ∀ p : SW (fun w' => Ls w' mb t line left), p.w.cell? ⟨mb, 0, none⟩ = some (.pointer (some ⟨t, 0, none⟩)) := fun p => p.h.cell0
    refine wp_region_G (fun w' => Ls w' mb t line left) 15 (by kernel_rfl) (by kernel_rfl) ?_
    generalize w1.drew = wa at Z1 ⊢
    refine G_stretch [1, 2, 3, 4, 8, 9, 10] 8 (by kernel_rfl) (by kernel_rfl) (by kernel_rfl) Z1.L ?_
    simp only [opsAt, pickOps, List.drop_succ_cons, List.drop_zero, List.take_succ_cons, List.take_zero, List.cons_append, List.nil_append]
    repeat (go_big_quiet_step (fail))
    refine wpQuiet_nil ?_
    refine G_two 0 5 (f := 7) rfl (by kernel_rfl) (by kernel_rfl) (by kernel_rfl) Z1.L (fun K hK => ?_) (fun K hK => ?_)
    · simp only [List.drop_succ_cons, List.drop_zero]
      refine opWp_cons ?_
      go_simp
      have Z2 := Z1.alloc (.cells names5 9)
      have Q2 : Row5 (wa.alloc (.cells names5 9)) wa.heap.size := heap_alloc_new wa _
      have hg2 : t < wa.heap.size := by have := Z1.T.lt; omega
      have hR2 : w.heap.size < wa.heap.size := Z1.R.lt
      refine hK (SQ mb t line left wa.heap.size) _ _ (fun _ h => h.1) ?_
      clear hK K
      have nz2 : Nonempty (SW (SQ mb t line left wa.heap.size)) := ⟨⟨_, ⟨Z2.L, Q2⟩⟩⟩
      change wpG _ _ _ _ _ _ _ (wa.alloc (.cells names5 9))
      generalize wa.alloc (.cells names5 9) = v2 at *
      refine G_one 5 (f := 6) rfl (by kernel_rfl) (by kernel_rfl) ⟨Z2.L, Q2⟩ (fun K hK => ?_)
      simp only [List.drop_succ_cons, List.drop_zero]
      refine opWp_cons ?_
      go_simp
      refine (next_tp _ B t A n cap 5 (by omega) (by omega) Z2.T).mono ?_
      rintro e v3 ⟨r3, rfl, hr3, T3, C3⟩
      have Z3 := Z2.next hne ht T3 C3
      have Q3 : Row5 v3 wa.heap.size := C3.at Q2 (by show ¬ wa.heap.size = t; omega)
      refine hK (SQ mb t line left wa.heap.size) _ _ (fun _ h => h) ?_
      clear hK K
      have hr5 : r3 < 5 := by omega
      have s4 : ∀ p : SW (SQ mb t line left wa.heap.size), p.w.cell? ⟨wa.heap.size, r3, none⟩ = some (.string (name5 r3)) := fun p => p.h.2.cell hr5
      refine G_stretch [6, 7] 4 (by kernel_rfl) (by kernel_rfl) (by kernel_rfl) ⟨Z3.L, Q3⟩ ?_
      simp only [opsAt, pickOps, List.drop_succ_cons, List.drop_zero, List.take_succ_cons, List.take_zero, List.cons_append, List.nil_append]
      repeat (go_big_quiet_step (fail))
      refine wpQuiet_nil ?_
      refine G_one 11 (f := 3) rfl (by kernel_rfl) (by kernel_rfl) ⟨Z3.L, Q3⟩ (fun K hK => ?_)
      simp only [List.drop_succ_cons, List.drop_zero]
      refine opWp_cons ?_
      go_simp
      refine (made_call ih _ rfl Z3 hne ht).mono ?_
      rintro e v5 ⟨y, A', c, rfl, Y5, hsy, Z5, C5⟩
      have Q5 : Row5 v5 wa.heap.size := C5.at Q3 (by show ¬ wa.heap.size = t; omega)
      refine hK (SQ mb t line left wa.heap.size) _ _ (fun _ h => h) ?_
      clear hK K
      refine G_one 12 (f := 2) rfl (by kernel_rfl) (by kernel_rfl) ⟨Z5.L, Q5⟩ (fun K hK => ?_)
      simp only [List.drop_succ_cons, List.drop_zero]
      refine opWp_cons ?_
      go_simp
      have Z6 := Z5.alloc (.cells #[.int .i64 y.op, .int .i64 y.n, .string y.name, .slice A' y.l.length c] 25)
      have M6 : Kid (v5.alloc (.cells #[.int .i64 y.op, .int .i64 y.n, .string y.name, .slice A' y.l.length c] 25)) v5.heap.size y A' c := heap_alloc_new v5 _
      have hG6 : w.heap.size < v5.heap.size := Z5.R.lt
      have Y6 := (Y5.alloc (Nat.le_refl _) (.cells #[.int .i64 y.op, .int .i64 y.n, .string y.name, .slice A' y.l.length c] 25)).more (B' := (v5.alloc (.cells #[.int .i64 y.op, .int .i64 y.n, .string y.name, .slice A' y.l.length c] 25)).heap.size) (by simp)
      have Q6 : Row5 (v5.alloc (.cells #[.int .i64 y.op, .int .i64 y.n, .string y.name, .slice A' y.l.length c] 25)) wa.heap.size := (Below.heap_alloc _ _ _ Q5.lt).trans Q5
      refine hK (SQ mb t line left wa.heap.size) _ _ (fun _ h => h) ?_
      clear hK K
      generalize v5.alloc (.cells #[.int .i64 y.op, .int .i64 y.n, .string y.name, .slice A' y.l.length c] 25) = v6 at *
      refine G_stretch [13] 1 (by kernel_rfl) (by kernel_rfl) (by kernel_rfl) ⟨Z6.L, Q6⟩ ?_
      simp only [opsAt, pickOps, List.drop_succ_cons, List.drop_zero, List.take_succ_cons, List.take_zero, List.cons_append, List.nil_append]
      repeat (go_big_quiet_step (fail))
      refine wpQuiet_nil ?_
      refine G_one 14 (f := 0) rfl (by kernel_rfl) (by kernel_rfl) ⟨Z6.L, Q6⟩ (fun K hK => ?_)
      obtain ⟨b0, b1, b2, b3⟩ := Z6.R.cells
      obtain ⟨g0, g1, g2, g3⟩ := Z6.R.free
      simp only [List.drop_succ_cons, List.drop_zero]
      refine opWp_cons ?_
      go_simp
      refine hK (SQ mb t line left wa.heap.size) _ _ (fun _ h => h) ?_
      clear hK K
      refine G_done (by kernel_rfl) ⟨(put4_ch _ _ _ _ _ _).at Z6.L (by show ¬ mb = w.heap.size; omega), (put4_ch _ _ _ _ _ _).at Q6 (by show ¬ wa.heap.size = w.heap.size; omega)⟩ ?_
      go_wp2_with fail
      refine bodyPost_ret (put4_ret Z6.R _ _ _ _ rfl rfl) rfl ?_
      rw [HJ.out]
      have hno := name5_ok r3
      exact one_end Z6 ht M6 hG6 Y6 hsy (by omega) (by omega) hno.2.2 (head_yes (n := true) rfl rfl hno.2.1 (.inr hno.1) rfl (.inr rfl))
    · simp only [List.drop_succ_cons, List.drop_zero]
      refine opWp_cons ?_
      go_simp
      refine (next_tp _ B t A n cap 5 (by omega) (by omega) Z1.T).mono ?_
      rintro e v7 ⟨r7, rfl, hr7, T7, C7⟩
      have Z7 := Z1.next hne ht T7 C7
      refine hK (fun w' => Ls w' mb t line left) _ _ (fun _ h => h) ?_
      clear hK K
      refine G_two 0 11 (f := 6) rfl (by kernel_rfl) (by kernel_rfl) (by kernel_rfl) Z7.L (fun K hK => ?_) (fun K hK => ?_)
      · simp only [List.drop_succ_cons, List.drop_zero]
        refine opWp_cons ?_
        go_simp
        have Z8 := Z7.alloc (.cells names5 9)
        have Q8 : Row5 (v7.alloc (.cells names5 9)) v7.heap.size := heap_alloc_new v7 _
        have hg8 : t < v7.heap.size := by have := Z7.T.lt; omega
        have hR8 : w.heap.size < v7.heap.size := Z7.R.lt
        refine hK (SQ mb t line left v7.heap.size) _ _ (fun _ h => h.1) ?_
        clear hK K
        have nz8 : Nonempty (SW (SQ mb t line left v7.heap.size)) := ⟨⟨_, ⟨Z8.L, Q8⟩⟩⟩
        change wpG _ _ _ _ _ _ _ (v7.alloc (.cells names5 9))
        generalize v7.alloc (.cells names5 9) = v8 at *
        have hr5 : r7 < 5 := by omega
        have s9 : ∀ p : SW (SQ mb t line left v7.heap.size), p.w.cell? ⟨v7.heap.size, r7, none⟩ = some (.string (name5 r7)) := fun p => p.h.2.cell hr5
        refine G_stretch [6, 7] 4 (by kernel_rfl) (by kernel_rfl) (by kernel_rfl) ⟨Z8.L, Q8⟩ ?_
        simp only [opsAt, pickOps, List.drop_succ_cons, List.drop_zero, List.take_succ_cons, List.take_zero, List.cons_append, List.nil_append]
        repeat (go_big_quiet_step (fail))
        refine wpQuiet_nil ?_
        refine G_one 11 (f := 3) rfl (by kernel_rfl) (by kernel_rfl) ⟨Z8.L, Q8⟩ (fun K hK => ?_)
        simp only [List.drop_succ_cons, List.drop_zero]
        refine opWp_cons ?_
        go_simp
        refine (made_call ih _ rfl Z8 hne ht).mono ?_
        rintro e v10 ⟨y, A', c, rfl, Y10, hsy, Z10, C10⟩
        have Q10 : Row5 v10 v7.heap.size := C10.at Q8 (by show ¬ v7.heap.size = t; omega)
        refine hK (SQ mb t line left v7.heap.size) _ _ (fun _ h => h) ?_
        clear hK K
        refine G_one 12 (f := 2) rfl (by kernel_rfl) (by kernel_rfl) ⟨Z10.L, Q10⟩ (fun K hK => ?_)
        simp only [List.drop_succ_cons, List.drop_zero]
        refine opWp_cons ?_
        go_simp
        have Z11 := Z10.alloc (.cells #[.int .i64 y.op, .int .i64 y.n, .string y.name, .slice A' y.l.length c] 25)
        have M11 : Kid (v10.alloc (.cells #[.int .i64 y.op, .int .i64 y.n, .string y.name, .slice A' y.l.length c] 25)) v10.heap.size y A' c := heap_alloc_new v10 _
        have hG11 : w.heap.size < v10.heap.size := Z10.R.lt
        have Y11 := (Y10.alloc (Nat.le_refl _) (.cells #[.int .i64 y.op, .int .i64 y.n, .string y.name, .slice A' y.l.length c] 25)).more (B' := (v10.alloc (.cells #[.int .i64 y.op, .int .i64 y.n, .string y.name, .slice A' y.l.length c] 25)).heap.size) (by simp)
        have Q11 : Row5 (v10.alloc (.cells #[.int .i64 y.op, .int .i64 y.n, .string y.name, .slice A' y.l.length c] 25)) v7.heap.size := (Below.heap_alloc _ _ _ Q10.lt).trans Q10
        refine hK (SQ mb t line left v7.heap.size) _ _ (fun _ h => h) ?_
        clear hK K
        generalize v10.alloc (.cells #[.int .i64 y.op, .int .i64 y.n, .string y.name, .slice A' y.l.length c] 25) = v11 at *
        refine G_stretch [13] 1 (by kernel_rfl) (by kernel_rfl) (by kernel_rfl) ⟨Z11.L, Q11⟩ ?_
        simp only [opsAt, pickOps, List.drop_succ_cons, List.drop_zero, List.take_succ_cons, List.take_zero, List.cons_append, List.nil_append]
        repeat (go_big_quiet_step (fail))
        refine wpQuiet_nil ?_
        refine G_one 14 (f := 0) rfl (by kernel_rfl) (by kernel_rfl) ⟨Z11.L, Q11⟩ (fun K hK => ?_)
        obtain ⟨b0, b1, b2, b3⟩ := Z11.R.cells
        obtain ⟨g0, g1, g2, g3⟩ := Z11.R.free
        simp only [List.drop_succ_cons, List.drop_zero]
        refine opWp_cons ?_
        go_simp
        refine hK (SQ mb t line left v7.heap.size) _ _ (fun _ h => h) ?_
        clear hK K
        refine G_done (by kernel_rfl) ⟨(put4_ch _ _ _ _ _ _).at Z11.L (by show ¬ mb = w.heap.size; omega), (put4_ch _ _ _ _ _ _).at Q11 (by show ¬ v7.heap.size = w.heap.size; omega)⟩ ?_
        go_wp2_with fail
        refine bodyPost_ret (put4_ret Z11.R _ _ _ _ rfl rfl) rfl ?_
        rw [HJ.out]
        have hno := name5_ok r7
        exact one_end Z11 ht M11 hG11 Y11 hsy (by omega) (by omega) hno.2.2 (head_yes (n := true) rfl rfl hno.2.1 (.inr hno.1) rfl (.inr rfl))
      · simp only [List.drop_succ_cons, List.drop_zero]
        refine opWp_cons ?_
        go_simp
        refine (made_call ih _ rfl Z7 hne ht).mono ?_
        rintro e v12 ⟨y, A', c, rfl, Y12, hsy, Z12, C12⟩
        refine hK (fun w' => Ls w' mb t line left) _ _ (fun _ h => h) ?_
        clear hK K
        refine G_two 0 12 (f := 5) rfl (by kernel_rfl) (by kernel_rfl) (by kernel_rfl) Z12.L (fun K hK => ?_) (fun K hK => ?_)
        · simp only [List.drop_succ_cons, List.drop_zero]
          refine opWp_cons ?_
          go_simp
          have Z13 := Z12.alloc (.cells names5 9)
          have Q13 : Row5 (v12.alloc (.cells names5 9)) v12.heap.size := heap_alloc_new v12 _
          have hg13 : t < v12.heap.size := by have := Z12.T.lt; omega
          have hR13 : w.heap.size < v12.heap.size := Z12.R.lt
          have Y13 := (Y12.alloc (Nat.le_refl _) (.cells names5 9)).more (B' := (v12.alloc (.cells names5 9)).heap.size) (by simp)
          refine hK (SQ mb t line left v12.heap.size) _ _ (fun _ h => h.1) ?_
          clear hK K
          have nz13 : Nonempty (SW (SQ mb t line left v12.heap.size)) := ⟨⟨_, ⟨Z13.L, Q13⟩⟩⟩
          change wpG _ _ _ _ _ _ _ (v12.alloc (.cells names5 9))
          generalize v12.alloc (.cells names5 9) = v13 at *
          have hr5 : r7 < 5 := by omega
          have s14 : ∀ p : SW (SQ mb t line left v12.heap.size), p.w.cell? ⟨v12.heap.size, r7, none⟩ = some (.string (name5 r7)) := fun p => p.h.2.cell hr5
          refine G_stretch [6, 7] 3 (by kernel_rfl) (by kernel_rfl) (by kernel_rfl) ⟨Z13.L, Q13⟩ ?_
          simp only [opsAt, pickOps, List.drop_succ_cons, List.drop_zero, List.take_succ_cons, List.take_zero, List.cons_append, List.nil_append]
          repeat (go_big_quiet_step (fail))
          refine wpQuiet_nil ?_
          refine G_one 12 (f := 2) rfl (by kernel_rfl) (by kernel_rfl) ⟨Z13.L, Q13⟩ (fun K hK => ?_)
          simp only [List.drop_succ_cons, List.drop_zero]
          refine opWp_cons ?_
          go_simp
          have Z15 := Z13.alloc (.cells #[.int .i64 y.op, .int .i64 y.n, .string y.name, .slice A' y.l.length c] 25)
          have M15 : Kid (v13.alloc (.cells #[.int .i64 y.op, .int .i64 y.n, .string y.name, .slice A' y.l.length c] 25)) v13.heap.size y A' c := heap_alloc_new v13 _
          have hG15 : w.heap.size < v13.heap.size := Z13.R.lt
          have Y15 := (Y13.alloc (Nat.le_refl _) (.cells #[.int .i64 y.op, .int .i64 y.n, .string y.name, .slice A' y.l.length c] 25)).more (B' := (v13.alloc (.cells #[.int .i64 y.op, .int .i64 y.n, .string y.name, .slice A' y.l.length c] 25)).heap.size) (by simp)
          have Q15 : Row5 (v13.alloc (.cells #[.int .i64 y.op, .int .i64 y.n, .string y.name, .slice A' y.l.length c] 25)) v12.heap.size := (Below.heap_alloc _ _ _ Q13.lt).trans Q13
          refine hK (SQ mb t line left v12.heap.size) _ _ (fun _ h => h) ?_
          clear hK K
          generalize v13.alloc (.cells #[.int .i64 y.op, .int .i64 y.n, .string y.name, .slice A' y.l.length c] 25) = v15 at *
          refine G_stretch [13] 1 (by kernel_rfl) (by kernel_rfl) (by kernel_rfl) ⟨Z15.L, Q15⟩ ?_
          simp only [opsAt, pickOps, List.drop_succ_cons, List.drop_zero, List.take_succ_cons, List.take_zero, List.cons_append, List.nil_append]
          repeat (go_big_quiet_step (fail))
          refine wpQuiet_nil ?_
          refine G_one 14 (f := 0) rfl (by kernel_rfl) (by kernel_rfl) ⟨Z15.L, Q15⟩ (fun K hK => ?_)
          obtain ⟨b0, b1, b2, b3⟩ := Z15.R.cells
          obtain ⟨g0, g1, g2, g3⟩ := Z15.R.free
          simp only [List.drop_succ_cons, List.drop_zero]
          refine opWp_cons ?_
          go_simp
          refine hK (SQ mb t line left v12.heap.size) _ _ (fun _ h => h) ?_
          clear hK K
          refine G_done (by kernel_rfl) ⟨(put4_ch _ _ _ _ _ _).at Z15.L (by show ¬ mb = w.heap.size; omega), (put4_ch _ _ _ _ _ _).at Q15 (by show ¬ v12.heap.size = w.heap.size; omega)⟩ ?_
          go_wp2_with fail
          refine bodyPost_ret (put4_ret Z15.R _ _ _ _ rfl rfl) rfl ?_
          rw [HJ.out]
          have hno := name5_ok r7
          exact one_end Z15 ht M15 hG15 Y15 hsy (by omega) (by omega) hno.2.2 (head_yes (n := true) rfl rfl hno.2.1 (.inr hno.1) rfl (.inr rfl))
        · simp only [List.drop_succ_cons, List.drop_zero]
          refine opWp_cons ?_
          go_simp
          have Z16 := Z12.alloc (.cells #[.int .i64 y.op, .int .i64 y.n, .string y.name, .slice A' y.l.length c] 25)
          have M16 : Kid (v12.alloc (.cells #[.int .i64 y.op, .int .i64 y.n, .string y.name, .slice A' y.l.length c] 25)) v12.heap.size y A' c := heap_alloc_new v12 _
          have hG16 : w.heap.size < v12.heap.size := Z12.R.lt
          have Y16 := (Y12.alloc (Nat.le_refl _) (.cells #[.int .i64 y.op, .int .i64 y.n, .string y.name, .slice A' y.l.length c] 25)).more (B' := (v12.alloc (.cells #[.int .i64 y.op, .int .i64 y.n, .string y.name, .slice A' y.l.length c] 25)).heap.size) (by simp)
          refine hK (fun w' => Ls w' mb t line left) _ _ (fun _ h => h) ?_
          clear hK K
          generalize v12.alloc (.cells #[.int .i64 y.op, .int .i64 y.n, .string y.name, .slice A' y.l.length c] 25) = v16 at *
          refine G_one 0 (f := 4) rfl (by kernel_rfl) (by kernel_rfl) Z16.L (fun K hK => ?_)
          simp only [List.drop_succ_cons, List.drop_zero]
          refine opWp_cons ?_
          go_simp
          have Z17 := Z16.alloc (.cells names5 9)
          have Q17 : Row5 (v16.alloc (.cells names5 9)) v16.heap.size := heap_alloc_new v16 _
          have hg17 : t < v16.heap.size := by have := Z16.T.lt; omega
          have hR17 : w.heap.size < v16.heap.size := Z16.R.lt
          have M17 : Kid (v16.alloc (.cells names5 9)) v12.heap.size y A' c := (Below.heap_alloc _ _ _ (Array.getElem?_eq_some_iff.1 M16).1).trans M16
          have Y17 := (Y16.alloc (Nat.le_refl _) (.cells names5 9)).more (B' := (v16.alloc (.cells names5 9)).heap.size) (by simp)
          refine hK (SQ mb t line left v16.heap.size) _ _ (fun _ h => h.1) ?_
          clear hK K
          have nz17 : Nonempty (SW (SQ mb t line left v16.heap.size)) := ⟨⟨_, ⟨Z17.L, Q17⟩⟩⟩
          change wpG _ _ _ _ _ _ _ (v16.alloc (.cells names5 9))
          generalize v16.alloc (.cells names5 9) = v17 at *
          have hr5 : r7 < 5 := by omega
          have s18 : ∀ p : SW (SQ mb t line left v16.heap.size), p.w.cell? ⟨v16.heap.size, r7, none⟩ = some (.string (name5 r7)) := fun p => p.h.2.cell hr5
          refine G_stretch [6, 7, 13] 1 (by kernel_rfl) (by kernel_rfl) (by kernel_rfl) ⟨Z17.L, Q17⟩ ?_
          simp only [opsAt, pickOps, List.drop_succ_cons, List.drop_zero, List.take_succ_cons, List.take_zero, List.cons_append, List.nil_append]
          repeat (go_big_quiet_step (fail))
          refine wpQuiet_nil ?_
          refine G_one 14 (f := 0) rfl (by kernel_rfl) (by kernel_rfl) ⟨Z17.L, Q17⟩ (fun K hK => ?_)
          obtain ⟨b0, b1, b2, b3⟩ := Z17.R.cells
          obtain ⟨g0, g1, g2, g3⟩ := Z17.R.free
          simp only [List.drop_succ_cons, List.drop_zero]
          refine opWp_cons ?_
          go_simp
          refine hK (SQ mb t line left v16.heap.size) _ _ (fun _ h => h) ?_
          clear hK K
          refine G_done (by kernel_rfl) ⟨(put4_ch _ _ _ _ _ _).at Z17.L (by show ¬ mb = w.heap.size; omega), (put4_ch _ _ _ _ _ _).at Q17 (by show ¬ v16.heap.size = w.heap.size; omega)⟩ ?_
          go_wp2_with fail
          refine bodyPost_ret (put4_ret Z17.R _ _ _ _ rfl rfl) rfl ?_
          rw [HJ.out]
          have hno := name5_ok r7
          exact one_end Z17 ht M17 hG16 Y17 hsy (by omega) (by omega) hno.2.2 (head_yes (n := true) rfl rfl hno.2.1 (.inr hno.1) rfl (.inr rfl))
  have e4 : ((r : Int) == 8) = false := by simp; omega
  obtain ⟨j, hj⟩ : ∃ j, k = j + 1 := ⟨k - 1, by omega⟩
  have ih := hih j hj
  have HJ := Lib.hid hj
  have hkj : (k : Int) - 1 = (j : Int) := by omega
  have HKJ := Lib.hid hkj
  have Z1 : St w B mb t A n cap line left w1 := ⟨T1, L1, R1, D1⟩
  have hk1 : 1 ≤ k := by omega
  clear hj hih hkj a0 a1 a2 a3 f0 f1 f2 f3 T1 R1 D1 cA cB cC
  by_cases cD : r < 11
  · have e5 : decide ((r : Int) < 11) = true := by simp; omega
    clear cD
    go_wp2_with fail
    refine (next_tp _ B t A n cap 2 (by omega) (by omega) Z1.T).mono ?_
    rintro e v2 ⟨r2, rfl, hr2, T2, C2⟩
    have Z2 := Z1.next hne ht T2 C2
    go_wp2_with fail
    refine (made_call ih _ HKJ.out Z2 hne ht).mono ?_
    rintro e v3 ⟨y, A', c, rfl, Y3, hsy, Z3, C3⟩
    have Z4 := Z3.alloc (.cells #[.int .i64 y.op, .int .i64 y.n, .string y.name, .slice A' y.l.length c] 25)
    have M4 : Kid (v3.alloc (.cells #[.int .i64 y.op, .int .i64 y.n, .string y.name, .slice A' y.l.length c] 25)) v3.heap.size y A' c := heap_alloc_new v3 _
    have hG : w.heap.size < v3.heap.size := Z3.R.lt
    have Y4 := (Y3.alloc (Nat.le_refl _) (.cells #[.int .i64 y.op, .int .i64 y.n, .string y.name, .slice A' y.l.length c] 25)).more (B' := (v3.alloc (.cells #[.int .i64 y.op, .int .i64 y.n, .string y.name, .slice A' y.l.length c] 25)).heap.size) (by simp)
    obtain ⟨b0, b1, b2, b3⟩ := Z3.R.cells
    obtain ⟨g0, g1, g2, g3⟩ := Z3.R.free
    go_wp2_with fail
    rw [put4_alloc _ _ _ Z3.R.lt]
    refine bodyPost_ret (put4_ret Z4.R _ _ _ _ rfl rfl) rfl ?_
    rw [HJ.out]
    exact one_end Z4 ht M4 hG Y4 hsy (by omega) (by omega) (by decide) (head_unary y (by omega))
  have e5 : decide ((r : Int) < 11) = false := by simp; omega
  go_wp2_with fail
  refine (next_tp _ B t A n cap 13 (by omega) (by omega) Z1.T).mono ?_
  rintro e v2 ⟨r2, rfl, hr2, T2, C2⟩
  have Z2 := Z1.next hne ht T2 C2
  have l2 := Z2.L.cell0
  go_wp2_with fail
  refine (made_call ih _ HKJ.out Z2 hne ht).mono ?_
  rintro e v3 ⟨y, A', c, rfl, Y3, hsy, Z3, C3⟩
  go_wp2_with fail
  have Z4 : St w B mb t A n cap line left (v3.alloc (.cells #[.int .i64 y.op, .int .i64 y.n, .string y.name, .slice A' y.l.length c] 25)).drew := (Z3.alloc _).drew
  have Y4 := (Y3.alloc (Nat.le_refl _) (.cells #[.int .i64 y.op, .int .i64 y.n, .string y.name, .slice A' y.l.length c] 25)).more (B' := (v3.alloc (.cells #[.int .i64 y.op, .int .i64 y.n, .string y.name, .slice A' y.l.length c] 25)).heap.size) (by simp)
  have M4 : Kid (v3.alloc (.cells #[.int .i64 y.op, .int .i64 y.n, .string y.name, .slice A' y.l.length c] 25)).drew v3.heap.size y A' c := heap_alloc_new v3 _
  have nz : Nonempty (SW (fun w' => Kid w' v3.heap.size y A' c)) := ⟨⟨_, M4⟩⟩
  have s0 : ∀ p : SW (fun w' => Kid w' v3.heap.size y A' c), p.w.cell? ⟨v3.heap.size, 0, none⟩ = some (.int .i64 y.op) := fun p => Lib.cell_of_heap p.h 0
  have s1 : ∀ p : SW (fun w' => Kid w' v3.heap.size y A' c), p.w.cell? ⟨v3.heap.size, 1, none⟩ = some (.int .i64 y.n) := fun p => Lib.cell_of_heap p.h 1
  have s2 : ∀ p : SW (fun w' => Kid w' v3.heap.size y A' c), p.w.cell? ⟨v3.heap.size, 2, none⟩ = some (.string y.name) := fun p => Lib.cell_of_heap p.h 2
  have s3 : ∀ p : SW (fun w' => Kid w' v3.heap.size y A' c), p.w.cell? ⟨v3.heap.size, 3, none⟩ = some (.slice A' y.l.length c) := fun p => Lib.cell_of_heap p.h 3
  have hw1 : IntKind.i64.wrap ((k : Int) - 1) = (j : Int) := by rw [IntWalk.i64_in _ (by omega)]; exact HKJ.out
  refine wp_region_mixO (fun w' => Kid w' v3.heap.size y A' c) (by kernel_rfl) (by kernel_rfl) M4 ?_
  have Y4' : ExIn (v3.alloc (.cells #[.int .i64 y.op, .int .i64 y.n, .string y.name, .slice A' y.l.length c] 25)).drew (w.heap.size + 1) (v3.alloc (.cells #[.int .i64 y.op, .int .i64 y.n, .string y.name, .slice A' y.l.length c] 25)).drew.heap.size (j + 1) y _ := Y4.drewn
  generalize (v3.alloc (.cells #[.int .i64 y.op, .int .i64 y.n, .string y.name, .slice A' y.l.length c] 25)).drew = v4 at M4 Z4 Y4' ⊢
  refine mixO_take 5 (by kernel_rfl) ?_
  simp only [List.take_succ_cons, List.take_zero, List.drop_succ_cons, List.drop_zero]
  repeat (go_big_quiet_step (fail))
  refine wpQuiet_nil ?_
  refine mixO_link rfl rfl (fun K hK => ?_)
  go_simp
  refine (made_call ih _ rfl Z4 hne ht).mono ?_
  rintro e v5 ⟨z, A2, c2, rfl, Y5, hsz, Z5, C5⟩
  have hv3 : t < v3.heap.size := by have := Z3.T.lt; omega
  have M5 : Kid v5 v3.heap.size y A' c := C5.at M4 (by show ¬ v3.heap.size = t; omega)
  have X5 := Y4'.ch C5 (by omega)
  refine hK _ _ M5 ?_
  clear hK K
  refine mixO_link rfl rfl (fun K hK => ?_)
  go_simp
  refine (binary_any _ _ _ _ _ _ _ _ _ _ _ _ _ _).mono ?_
  rintro e v6 ⟨G, rfl, hG, hGk, hb6⟩
  have Z6 := Z5.below hb6
  have M6 : Kid v6 v3.heap.size y A' c := (hb6.block _ (Array.getElem?_eq_some_iff.1 M5).1).trans M5
  have X6 := (X5.below hb6).more hb6.size
  have Y6 := (Y5.below hb6).more hb6.size
  have hR5 := Z5.R.lt
  obtain ⟨b0, b1, b2, b3⟩ := Z6.R.cells
  obtain ⟨g0, g1, g2, g3⟩ := Z6.R.free
  have hR3 := Z3.R.lt
  refine hK _ _ M6 ?_
  clear hK K
  refine mixO_link rfl rfl (fun K hK => ?_)
  go_simp
  refine hK _ _ ((put4_ch _ _ _ _ _ _).at M6 (by show ¬ v3.heap.size = w.heap.size; omega)) ?_
  clear hK K
  refine mixO_nil ?_
  go_wp2_with fail
  refine bodyPost_ret (put4_ret Z6.R _ _ _ _ rfl rfl) rfl ?_
  rw [HJ.out]
  exact two_end Z6 ht hGk (by omega) X6 hsy Y6 hsz (by omega) (by omega)

theorem madeExpr_all : ∀ k, k ≤ 5 → MadeExprAt k
  | 0, _ => fun w B mb t A n cap line left hT hL hne => made_step 0 (by omega) (fun j hj => by omega) w B mb t A n cap line left hT hL hne
  | k + 1, hk => fun w B mb t A n cap line left hT hL hne => made_step (k + 1) hk (fun j hj => by
      have e : j = k := by omega
      subst e
      exact madeExpr_all j (by omega)) w B mb t A n cap line left hT hL hne
end Go.Proofs.YtliiehfjcplieaaDoor
