/- The contracts of package format's functions on expressions. -/
import Derived.Test.YtliiehfjcplieaaDoorPlain
import Derived.Test.YtliiehfjcplieaaDoorShelf
import Derived.WalkSpells
import Derived.WalkLawsBesides
import Derived.BigQuiet
import Derived.BigGuardPart
import Derived.Lib.Hide
namespace Go.Proofs.YtliiehfjcplieaaDoor
open Go.RowKit Go.Sort

/-- what the package-level variables hold that are read; they lie below B -/
structure Env (w : World) (B : Nat) : Prop where
  lo : 2 ≤ B
  ops : ∀ op : Nat, 1 ≤ op → op ≤ 18 → w.cell? ⟨0, op * 2, none⟩ = some (.string ⟨(sgn op).toArray⟩) ∧ w.cell? ⟨0, op * 2 + 1, none⟩ = some (.int .i64 (lvl op))
  pow : Lib.TabIs Tryd.prog w "internal/strconv.uint64pow10" .u64 Lib.pow10Tab

theorem globPow : Tryd.prog.globalNamed "internal/strconv.uint64pow10" = some 1 := by kernel_rfl

theorem Env.below {w w' : World} {B : Nat} (h : Env w B) (hb : Below B w w') : Env w' B where
  lo := h.lo
  ops := fun op h1 h2 => by
    have := h.lo
    obtain ⟨a, b⟩ := h.ops op h1 h2
    exact ⟨(hb.cell (p := ⟨0, op * 2, none⟩) (by show 0 < B; omega)).trans a, (hb.cell (p := ⟨0, op * 2 + 1, none⟩) (by show 0 < B; omega)).trans b⟩
  pow := by
    have := h.lo
    exact var?_below hb globPow (by omega) h.pow
theorem Env.more {w : World} {B B' : Nat} (h : Env w B) (hB : B ≤ B') : Env w B' := ⟨Nat.le_trans h.lo hB, h.ops, h.pow⟩
theorem Env.alloc {w : World} {B : Nat} (h : Env w B) (hB : B ≤ w.heap.size) (o : Obj) : Env (w.alloc o) B := h.below ((Below.refl _ _).alloc hB o)

/-- WriteString, with every frame -/
theorem ws (B b : Nat) (l t : List UInt8) (s : ByteArray) (hs : s.data.toList = t) (w : World) (h : Lib.IsBuilderF 62 5 B b (Lib.byteCells l) w) (hlen : l.length + t.length ≤ 140737488355328) (hBw : B ≤ w.heap.size) :
    Calls Tryd.prog 34 #[.pointer (some ⟨b, 0, none⟩), .string s] w fun e w' => e = .returned (.tuple #[.int .i64 s.size, .nilIface]) ∧ Lib.IsBuilderF 62 5 B b (Lib.byteCells (l ++ t)) w' ∧ Fr 5 B b w w' := by
  subst hs
  exact (Any.Builder_WriteString_k { Tryd.lays105 with } Tryd.Builder_Extra_105 B b _ s w h (by rw [Lib.byteCells_length, ← size_list]; exact hlen) hBw).mono fun e w' ⟨he, hb, h1, h2⟩ => ⟨he, .inr (by rw [Lib.byteCells_append]; exact hb), ⟨h1, h2⟩⟩

theorem fmtInt (n : Int) (h0 : -9223372036854775808 ≤ n) (h1 : n ≤ 9223372036854775807) (w : World) (htab : Lib.TabIs Tryd.prog w "internal/strconv.uint64pow10" .u64 Lib.pow10Tab) :
    Calls Tryd.prog 26 #[.int .i64 n, .int .i64 10] w fun e w' => e = .returned (.string ⟨(Lib.itoa n).toArray⟩) ∧ Below w.heap.size w w' :=
  (Tryd.strconv_FormatInt_10 n h0 h1 w htab).mono fun e w' ⟨he, k, os, hw⟩ => ⟨he, by
    subst hw
    exact ⟨rfl, rfl, rfl, by simp [grow, World.drewN], fun k hk => by simp [grow, World.drewN, Array.getElem?_append, hk]⟩⟩

/-- the box of an expression, as a block -/
def Box (w : World) (k : Nat) (x : Ex) (A : Option Addr) (cap : Nat) : Prop :=
  w.heap[k]? = some (.cells #[.int .i64 x.op, .int .i64 x.n, .string x.name, .slice A x.l.length cap] 25 (0, 0))
/-- the box of an operator -/
def OBox (w : World) (k : Nat) (op : Int) : Prop :=
  w.heap[k]? = some (.cells #[.string ⟨(sgn op).toArray⟩, .int .i64 (lvl op)] 107 (0, 0))

theorem Box.kept {w w' : World} {B k b : Nat} {x : Ex} {A : Option Addr} {cap : Nat} (h : Box w k x A cap) (hk : Fr 5 B b w w') (hne : k ≠ b) : Box w' k x A cap :=
  hk.kept k _ h (by simpa using hne) (fun c fz he => by injection he with _ ht; simp at ht)
theorem OBox.kept {w w' : World} {B k b : Nat} {op : Int} (h : OBox w k op) (hk : Fr 5 B b w w') (hne : k ≠ b) : OBox w' k op :=
  hk.kept k _ h (by simpa using hne) (fun c fz he => by injection he with _ ht; simp at ht)
theorem Box.cells {w : World} {k : Nat} {x : Ex} {A : Option Addr} {cap : Nat} (h : Box w k x A cap) :
    w.cell? ⟨k, 0, none⟩ = some (.int .i64 x.op) ∧ w.cell? ⟨k, 1, none⟩ = some (.int .i64 x.n) ∧ w.cell? ⟨k, 2, none⟩ = some (.string x.name) ∧ w.cell? ⟨k, 3, none⟩ = some (.slice A x.l.length cap) :=
  ⟨Lib.cell_of_heap h 0, Lib.cell_of_heap h 1, Lib.cell_of_heap h 2, Lib.cell_of_heap h 3⟩
theorem OBox.cells {w : World} {k : Nat} {op : Int} (h : OBox w k op) :
    w.cell? ⟨k, 0, none⟩ = some (.string ⟨(sgn op).toArray⟩) ∧ w.cell? ⟨k, 1, none⟩ = some (.int .i64 (lvl op)) :=
  ⟨Lib.cell_of_heap h 0, Lib.cell_of_heap h 1⟩
theorem Box.lt {w : World} {k : Nat} {x : Ex} {A : Option Addr} {cap : Nat} (h : Box w k x A cap) : k < w.heap.size := (Array.getElem?_eq_some_iff.1 h).1
theorem OBox.lt {w : World} {k : Nat} {op : Int} (h : OBox w k op) : k < w.heap.size := (Array.getElem?_eq_some_iff.1 h).1

theorem box_after {w w1 : World} {x : Ex} {A : Option Addr} {cap : Nat}
    (h : Below (w.alloc (.cells #[.int .i64 x.op, .int .i64 x.n, .string x.name, .slice A x.l.length cap] 25)).heap.size (w.alloc (.cells #[.int .i64 x.op, .int .i64 x.n, .string x.name, .slice A x.l.length cap] 25)) w1) :
    w.heap.size < w1.heap.size ∧ Box w1 w.heap.size x A cap := by
  have hz := h.size
  simp at hz
  refine ⟨by omega, ?_⟩
  unfold Box
  rw [h.block _ (by simp)]
  exact heap_alloc_new w _
theorem below_box {w w1 : World} {o : Obj} (h : Below (w.alloc o).heap.size (w.alloc o) w1) : Below w.heap.size w w1 :=
  ((Below.refl _ _).alloc (Nat.le_refl _) o).trans (h.mono (by simp))

set_option maxHeartbeats 400000 in
theorem operatorOf_at (op : Int) (w : World) (h1 : 1 ≤ op) (h2 : op ≤ 18) (hE : Env w w.heap.size) :
    Calls Tryd.prog 53 #[.int .i64 op] w fun e w' => e = .returned (.agg #[.string ⟨(sgn op).toArray⟩, .int .i64 (lvl op)]) ∧ Below w.heap.size w w' := by
  obtain ⟨i, rfl⟩ := Int.eq_ofNat_of_zero_le (show 0 ≤ op by omega)
  obtain ⟨hc0, hc1⟩ := hE.ops i (by omega) (by omega)
  have hlv : (lvl (i : Int) == 0) = false := by
    rcases ops18 h1 h2 with h | h | h | h | h | h | h | h | h | h | h | h | h | h | h | h | h | h <;> rw [h] <;> rfl
  have hg : 0 < w.heap.size := by have := hE.lo; omega
  go_enter Tryd.func53, Tryd.ntmps53
  go_wp2
  refine bodyPost_ret (v := .agg #[.string ⟨(sgn i).toArray⟩, .int .i64 (lvl i)]) (by simp [results, Tryd.results53, go_sem]) rfl ⟨rfl, ?_⟩
  exact ((Below.refl _ _).alloc (Nat.le_refl _) _)

set_option maxHeartbeats 400000 in
theorem operand_at (c0 c1 c2 : Value) (n cap : Nat) (i : Nat) (b off : Nat) (o m : Int) (s : ByteArray) (A : Option Addr) (k c : Nat) (w : World) (hi : i < n)
   (hb : b < w.heap.size)
   (h0 : w.cell? ⟨b, off + i * 4, none⟩ = some (.int .i64 o)) (h1 : w.cell? ⟨b, off + i * 4 + 1, none⟩ = some (.int .i64 m)) (h2 : w.cell? ⟨b, off + i * 4 + 2, none⟩ = some (.string s)) (h3 : w.cell? ⟨b, off + i * 4 + 3, none⟩ = some (.slice A k c)) :
    Calls Tryd.prog 55 #[.agg #[c0, c1, c2, .slice (some ⟨b, off, none⟩) n cap], .int .i64 i] w fun e w' => e = .returned (.agg #[.int .i64 o, .int .i64 m, .string s, .slice A k c]) ∧ Below w.heap.size w w' := by
  go_enter Tryd.func55, Tryd.ntmps55
  go_wp2
  refine bodyPost_ret (v := .agg #[.int .i64 o, .int .i64 m, .string s, .slice A k c]) (by simp [results, Tryd.results55, go_sem]) rfl ⟨rfl, ?_⟩
  exact ((Below.refl _ _).alloc (Nat.le_refl _) _).alloc (by simp) _

/-- the operand i of an expression that lies below B, in whatever world that is as w below B -/
theorem operand_ex {w : World} {B d : Nat} {x : Ex} {v : Value} (h : ExAt w B (d + 1) x v) (i : Nat) (j : Int) (hj : j = i) (hi : i < x.l.length) (hB : B ≤ w.heap.size) :
    ∃ u, ExAt w B d (x.l.getD i Ex.nil) u ∧ ∀ w', Below B w w' → Calls Tryd.prog 55 #[v, .int .i64 j] w' fun e w'' => e = .returned u ∧ Below w'.heap.size w' w'' := by
  subst hj
  obtain ⟨A, cap, rfl, hr, hc⟩ := h
  obtain ⟨b, off, A', c, rfl, hb, h0, h1, h2, h3, h4⟩ := hc i hi
  refine ⟨_, h4, fun w' hw => ?_⟩
  have hz := hw.size
  exact operand_at _ _ _ _ _ i b off _ _ _ _ _ _ w' hi (by omega) ((hw.cell hb).trans h0) ((hw.cell hb).trans h1) ((hw.cell hb).trans h2) ((hw.cell hb).trans h3)
end Go.Proofs.YtliiehfjcplieaaDoor
