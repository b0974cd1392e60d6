/- Plain definitions: expressions as trees, their texts, how they lie in memory. No program is named here. -/
import Derived.WalkKit
import Derived.Lib.OthersKept
import Derived.Lib.ItoaNum
import Derived.Lib.LaidTab
import Derived.Deep.Draws
namespace Go.Proofs.YtliiehfjcplieaaDoor
open Go.RowKit

theorem ret_bool {a b : Bool} (h : a = b) : Ending.returned (.bool a) = .returned (.bool b) := by rw [h]
theorem ret_int {k : IntKind} {a b : Int} (h : a = b) : Ending.returned (.int k a) = .returned (.int k b) := by rw [h]
theorem ret_str {a b : ByteArray} (h : a = b) : Ending.returned (.string a) = .returned (.string b) := by rw [h]

theorem size_mk (l : List UInt8) : (⟨l.toArray⟩ : ByteArray).size = l.length := by simp [ByteArray.size]
theorem size_list (s : ByteArray) : s.data.toList.length = s.size := by rw [Array.length_toList]; rfl

theorem str_ext {s : ByteArray} {l : List UInt8} (h : s.data.toList = l) : s = ⟨l.toArray⟩ := by subst h; rfl

/-! Expressions -/
structure Ex where
  op : Int
  n : Int
  name : ByteArray
  l : List Ex

def Ex.nil : Ex := ⟨0, 0, ⟨#[]⟩, []⟩

def sgn (op : Int) : List UInt8 :=
  match op with
  | 4 => [45] | 5 => [33] | 6 => [43] | 7 => [45] | 8 => [42] | 9 => [47] | 10 => [37] | 11 => [61, 61] | 12 => [33, 61] | 13 => [60] | 14 => [60, 61] | 15 => [62] | 16 => [62, 61] | 17 => [38, 38] | 18 => [124, 124] | _ => []
def lvl (op : Int) : Int :=
  match op with
  | 4 => 6 | 5 => 6 | 6 => 4 | 7 => 4 | 8 => 5 | 9 => 5 | 10 => 5 | 11 => 3 | 12 => 3 | 13 => 3 | 14 => 3 | 15 => 3 | 16 => 3 | 17 => 2 | 18 => 1 | _ => 7
/-- how many operands an operator has -/
def arity (op : Int) : Int := if op = 1 ∨ op = 2 then 0 else if 3 ≤ op ∧ op ≤ 5 then 1 else if 6 ≤ op ∧ op ≤ 18 then 2 else -1

theorem ops18 {op : Int} (h1 : 1 ≤ op) (h2 : op ≤ 18) : op = 1 ∨ op = 2 ∨ op = 3 ∨ op = 4 ∨ op = 5 ∨ op = 6 ∨ op = 7 ∨ op = 8 ∨ op = 9 ∨ op = 10 ∨ op = 11 ∨ op = 12 ∨ op = 13 ∨ op = 14 ∨ op = 15 ∨ op = 16 ∨ op = 17 ∨ op = 18 := by omega

def leftOf (op : Int) : Int := if lvl op = 3 then 4 else lvl op

/-- the text of an operand at a place that asks for a level -/
def putT (t : List UInt8) (op level : Int) : List UInt8 := if lvl op < level then [40] ++ t ++ [41] else t

/-- the text of an expression, d levels deep -/
def txt : Nat → Ex → List UInt8
  | 0, _ => []
  | d + 1, x =>
    if x.op = 1 then Lib.itoa x.n
    else if x.op = 2 then x.name.data.toList
    else if x.op = 3 then x.name.data.toList ++ [91] ++ txt d (x.l.getD 0 Ex.nil) ++ [93]
    else if lvl x.op = 6 then sgn x.op ++ putT (txt d (x.l.getD 0 Ex.nil)) (x.l.getD 0 Ex.nil).op 6
    else putT (txt d (x.l.getD 0 Ex.nil)) (x.l.getD 0 Ex.nil).op (leftOf x.op) ++ [32] ++ sgn x.op ++ [32] ++ putT (txt d (x.l.getD 1 Ex.nil)) (x.l.getD 1 Ex.nil).op (lvl x.op + 1)

/-- every operator has as many operands as it wants, d levels deep -/
def cnt : Nat → Ex → Prop
  | 0, _ => False
  | d + 1, x => arity x.op = x.l.length ∧ ∀ y ∈ x.l, cnt d y

theorem cnt_op {d : Nat} {x : Ex} (h : cnt d x) : 1 ≤ x.op ∧ x.op ≤ 18 := by
  cases d with
  | zero => exact h.elim
  | succ d =>
    have := h.1
    unfold arity at this
    split at this
    · omega
    · split at this
      · omega
      · split at this <;> omega

theorem cnt_len {d : Nat} {x : Ex} (h : cnt d x) : (x.l.length : Int) = arity x.op := by
  cases d with
  | zero => exact h.elim
  | succ d => exact h.1.symm

theorem cnt_child {d : Nat} {x : Ex} (h : cnt (d + 1) x) (i : Nat) (hi : i < x.l.length) : cnt d (x.l.getD i Ex.nil) := by
  have e : x.l.getD i Ex.nil = x.l[i] := by simp [hi]
  rw [e]
  exact h.2 _ (List.getElem_mem hi)

/-! How an expression lies in memory: its operands in blocks from L on and below B -/
def ExIn (w : World) (L B : Nat) : Nat → Ex → Value → Prop
  | 0, _, _ => False
  | d + 1, x, v => ∃ (A : Option Addr) (cap : Nat),
      v = .agg #[.int .i64 x.op, .int .i64 x.n, .string x.name, .slice A x.l.length cap] ∧
      (-9223372036854775808 ≤ x.op ∧ x.op ≤ 9223372036854775807 ∧ -9223372036854775808 ≤ x.n ∧ x.n ≤ 9223372036854775807 ∧ x.l.length ≤ 9223372036854775807 ∧ x.name.size ≤ 9223372036854775807 ∧ ∀ a, A = some a → 0 < x.l.length → L ≤ a.block) ∧
      ∀ i, i < x.l.length → ∃ (b off : Nat) (A' : Option Addr) (c : Nat), A = some ⟨b, off, none⟩ ∧ b < B ∧
        w.cell? ⟨b, off + i * 4, none⟩ = some (.int .i64 (x.l.getD i Ex.nil).op) ∧
        w.cell? ⟨b, off + i * 4 + 1, none⟩ = some (.int .i64 (x.l.getD i Ex.nil).n) ∧
        w.cell? ⟨b, off + i * 4 + 2, none⟩ = some (.string (x.l.getD i Ex.nil).name) ∧
        w.cell? ⟨b, off + i * 4 + 3, none⟩ = some (.slice A' (x.l.getD i Ex.nil).l.length c) ∧
        ExIn w L B d (x.l.getD i Ex.nil) (.agg #[.int .i64 (x.l.getD i Ex.nil).op, .int .i64 (x.l.getD i Ex.nil).n, .string (x.l.getD i Ex.nil).name, .slice A' (x.l.getD i Ex.nil).l.length c])

theorem ExIn.keep {w w' : World} {L L' B B' : Nat} (hL : L' ≤ L) (hB : B ≤ B') (hk : ∀ p : Addr, L ≤ p.block → p.block < B → w'.cell? p = w.cell? p) :
    ∀ {d : Nat} {x : Ex} {v : Value}, ExIn w L B d x v → ExIn w' L' B' d x v
  | 0, _, _, h => h.elim
  | d + 1, x, v, h => by
    obtain ⟨A, cap, hv, hr, hc⟩ := h
    obtain ⟨r1, r2, r3, r4, r5, r6, r7⟩ := hr
    refine ⟨A, cap, hv, ⟨r1, r2, r3, r4, r5, r6, fun a ha h0 => Nat.le_trans hL (r7 a ha h0)⟩, fun i hi => ?_⟩
    obtain ⟨b, off, A', c, hA, hb, h0, h1, h2, h3, h4⟩ := hc i hi
    have hb' : L ≤ b := r7 _ hA (by omega)
    exact ⟨b, off, A', c, hA, by omega, (hk _ hb' hb).trans h0, (hk _ hb' hb).trans h1, (hk _ hb' hb).trans h2, (hk _ hb' hb).trans h3, ExIn.keep hL hB hk h4⟩
/-- one level deeper is no matter -/
theorem ExIn.deeper {w : World} {L B : Nat} : ∀ {d : Nat} {x : Ex} {v : Value}, ExIn w L B d x v → ExIn w L B (d + 1) x v
  | 0, _, _, h => h.elim
  | d + 1, x, v, h => by
    obtain ⟨A, cap, hv, hr, hc⟩ := h
    refine ⟨A, cap, hv, hr, fun i hi => ?_⟩
    obtain ⟨b, off, A', c, hA, hb, h0, h1, h2, h3, h4⟩ := hc i hi
    exact ⟨b, off, A', c, hA, hb, h0, h1, h2, h3, h4.deeper⟩
theorem ExIn.deep {w : World} {L B : Nat} {d d' : Nat} {x : Ex} {v : Value} (h : ExIn w L B d x v) (hd : d ≤ d') : ExIn w L B d' x v := by
  induction hd with
  | refl => exact h
  | step _ ih => exact ih.deeper

abbrev ExAt (w : World) (B : Nat) (d : Nat) (x : Ex) (v : Value) : Prop := ExIn w 0 B d x v
theorem ExAt.keep {w w' : World} {B B' : Nat} (hB : B ≤ B') (hk : ∀ p : Addr, p.block < B → w'.cell? p = w.cell? p) {d : Nat} {x : Ex} {v : Value} (h : ExAt w B d x v) : ExAt w' B' d x v :=
  ExIn.keep (Nat.le_refl _) hB (fun p _ hp => hk p hp) h
theorem ExAt.below {w w' : World} {B : Nat} {d : Nat} {x : Ex} {v : Value} (h : ExAt w B d x v) (hb : Below B w w') : ExAt w' B d x v :=
  ExAt.keep (Nat.le_refl _) (fun _ hp => hb.cell hp) h
theorem ExAt.more {w : World} {B B' : Nat} {d : Nat} {x : Ex} {v : Value} (h : ExAt w B d x v) (hB : B ≤ B') : ExAt w B' d x v :=
  ExAt.keep hB (fun _ _ => rfl) h
theorem ExAt.alloc {w : World} {B : Nat} {d : Nat} {x : Ex} {v : Value} (h : ExAt w B d x v) (hB : B ≤ w.heap.size) (o : Obj) : ExAt (w.alloc o) B d x v :=
  ExAt.keep (Nat.le_refl _) (fun p hp => World.cell?_alloc_lt w o p (by omega)) h
theorem ExIn.below {w w' : World} {L B : Nat} {d : Nat} {x : Ex} {v : Value} (h : ExIn w L B d x v) (hb : Below B w w') : ExIn w' L B d x v :=
  ExIn.keep (Nat.le_refl _) (Nat.le_refl _) (fun _ _ hp => hb.cell hp) h
theorem ExIn.more {w : World} {L B B' : Nat} {d : Nat} {x : Ex} {v : Value} (h : ExIn w L B d x v) (hB : B ≤ B') : ExIn w L B' d x v :=
  ExIn.keep (Nat.le_refl _) hB (fun _ _ _ => rfl) h
theorem ExIn.alloc {w : World} {L B : Nat} {d : Nat} {x : Ex} {v : Value} (h : ExIn w L B d x v) (hB : B ≤ w.heap.size) (o : Obj) : ExIn (w.alloc o) L B d x v :=
  ExIn.keep (Nat.le_refl _) (Nat.le_refl _) (fun p _ hp => World.cell?_alloc_lt w o p (by omega)) h
theorem heap_new2 (w : World) (o o' : Obj) : ((w.alloc o).alloc o').heap[w.heap.size + 1]? = some o' := by
  show ((w.heap.push o).push o')[w.heap.size + 1]? = _
  rw [Array.getElem?_push, if_pos (by simp)]
theorem heap_new1 (w : World) (o o' : Obj) : ((w.alloc o).alloc o').heap[w.heap.size]? = some o :=
  (Below.heap_alloc _ _ _ (by simp)).trans (heap_alloc_new w o)
theorem ExIn.to {w : World} {L B : Nat} {d : Nat} {x : Ex} {v : Value} (h : ExIn w L B d x v) : ExAt w B d x v :=
  ExIn.keep (Nat.zero_le _) (Nat.le_refl _) (fun _ _ _ => rfl) h

/-! Worlds -/
theorem bcell {W w1 : World} {B : Nat} (hb : Below B W w1) : (∀ b o, b < B → w1.cell? ⟨b, o, none⟩ = W.cell? ⟨b, o, none⟩) ∧ (∀ b o, b < B → w1.frozen? ⟨b, o, none⟩ = W.frozen? ⟨b, o, none⟩) :=
  ⟨fun b o h => hb.cell (p := ⟨b, o, none⟩) h, fun b o h => hb.frozen (p := ⟨b, o, none⟩) h⟩

theorem kept_of_below {e : TypeId} {b : Option Nat} {w w' : World} (h : Below w.heap.size w w') : Lib.OthersKept e b w w' := by
  intro k o hk _ _
  have hlt : k < w.heap.size := (Array.getElem?_eq_some_iff.1 hk).1
  rw [h.block k hlt]
  exact hk

/-- THE FRAME OF A WRITER: below B nothing has turned; above it no block but the builder's own and rows of bytes -/
structure Fr (e : TypeId) (B b : Nat) (w w' : World) : Prop where
  below : Below B w w'
  kept : Lib.OthersKept e (some b) w w'
theorem Fr.refl (e : TypeId) (B b : Nat) (w : World) : Fr e B b w w := ⟨Below.refl _ _, Lib.OthersKept.refl _ _ _⟩
theorem Fr.trans {e : TypeId} {B b : Nat} {w1 w2 w3 : World} (h : Fr e B b w1 w2) (k : Fr e B b w2 w3) : Fr e B b w1 w3 := ⟨h.below.trans k.below, h.kept.trans k.kept⟩
theorem Fr.alloc {e : TypeId} {B b : Nat} {w1 w2 : World} (h : Fr e B b w1 w2) (hB : B ≤ w1.heap.size) (o : Obj) : Fr e B b w1 (w2.alloc o) := ⟨h.below.alloc (Nat.le_trans hB h.below.size) o, h.kept.alloc o⟩
theorem Fr.call {e : TypeId} {B b : Nat} {w1 w2 w3 : World} (h : Fr e B b w1 w2) (hB : B ≤ w1.heap.size) (k : Below w2.heap.size w2 w3) : Fr e B b w1 w3 :=
  ⟨h.below.trans (k.mono (Nat.le_trans hB h.below.size)), h.kept.trans (kept_of_below k)⟩
theorem Fr.drew {e : TypeId} {B b : Nat} {w1 w2 : World} (h : Fr e B b w1 w2) : Fr e B b w1 w2.drew := ⟨h.below.drew, h.kept⟩
theorem Fr.drewN {e : TypeId} {B b : Nat} {w1 w2 : World} (h : Fr e B b w1 w2) (n : Nat) : Fr e B b w1 (w2.drewN n) := ⟨⟨h.below.os, h.below.tape, h.below.output, h.below.size, h.below.block⟩, h.kept⟩
theorem Fr.size {e : TypeId} {B b : Nat} {w1 w2 : World} (h : Fr e B b w1 w2) (hB : B ≤ w1.heap.size) : B ≤ w2.heap.size := Nat.le_trans hB h.below.size

theorem gcall {n : Nat} {w w1 w2 : World} (g : Below n w w1) (hn : n ≤ w.heap.size) (k : Below w1.heap.size w1 w2) : Below n w w2 := g.trans (k.mono (Nat.le_trans hn g.size))

theorem ownsRowF_below {w w' : World} {base : Nat} {e : TypeId} {size : Nat} {v : Value} {n : Nat} {xs : List Value} (h : w.ownsRowF base e size v n xs) (hb : Below w.heap.size w w') : w'.ownsRowF base e size v n xs := by
  obtain ⟨h1, h2⟩ := h
  refine ⟨h1, ?_⟩
  rcases h2 with h2 | ⟨g, cap, cur, fz, hv, hg, hh, r⟩
  · exact .inl h2
  · refine .inr ⟨g, cap, cur, fz, hv, hg, ?_, r⟩
    rw [hb.block g (Array.getElem?_eq_some_iff.1 hh).1]
    exact hh

theorem builderAt_below {T e : TypeId} {B b : Nat} {p : Value} {bs : List Value} {w w' : World} (h : Lib.BuilderAtF T e B b p bs w) (hb : Below w.heap.size w w') : Lib.BuilderAtF T e B b p bs w' := by
  obtain ⟨hB, v, hbk, hown, hne⟩ := h
  refine ⟨hB, v, ?_, ownsRowF_below hown hb, hne⟩
  rw [hb.block b (Array.getElem?_eq_some_iff.1 hbk).1]
  exact hbk
theorem isBuilder_below {T e : TypeId} {B b : Nat} {bs : List Value} {w w' : World} (h : Lib.IsBuilderF T e B b bs w) (hb : Below w.heap.size w w') : Lib.IsBuilderF T e B b bs w' :=
  h.elim (fun x => .inl (builderAt_below x hb)) (fun x => .inr (builderAt_below x hb))
/-- a builder that has just been made, behind one block -/
theorem isBuilder_fresh (T e : TypeId) (w : World) {o : Obj} : Lib.IsBuilderF T e w.heap.size (w.heap.size + 1) (Lib.byteCells []) ((w.alloc o).alloc (.cells #[.pointer none, .slice none 0 0] T)) := by
  refine .inl ⟨by omega, .slice none 0 0, ?_, World.ownsRowF_nil _ _ _ _, by simp [Value.ownBlock]⟩
  have h := heap_alloc_new (w.alloc o) (.cells #[.pointer none, .slice none 0 0] T)
  simpa using h
theorem isBuilder_lt {T e : TypeId} {B b : Nat} {bs : List Value} {w : World} (h : Lib.IsBuilderF T e B b bs w) : b < w.heap.size :=
  h.elim (fun x => x.lt) (fun x => x.lt)
theorem isBuilder_ge {T e : TypeId} {B b : Nat} {bs : List Value} {w : World} (h : Lib.IsBuilderF T e B b bs w) : B ≤ b :=
  h.elim (fun x => x.1) (fun x => x.1)

/-! What may have turned: the blocks of S, and what is new -/
structure Ch (S : Nat → Prop) (w w' : World) : Prop where
  os : w'.os = w.os
  tape : w'.tape = w.tape
  output : w'.output = w.output
  size : w.heap.size ≤ w'.heap.size
  block : ∀ k, k < w.heap.size → ¬ S k → w'.heap[k]? = w.heap[k]?
theorem Ch.refl (S : Nat → Prop) (w : World) : Ch S w w := ⟨rfl, rfl, rfl, Nat.le_refl _, fun _ _ _ => rfl⟩
theorem Ch.trans {S : Nat → Prop} {a b c : World} (h : Ch S a b) (k : Ch S b c) : Ch S a c :=
  ⟨k.os.trans h.os, k.tape.trans h.tape, k.output.trans h.output, Nat.le_trans h.size k.size, fun i hi hs => (k.block i (Nat.lt_of_lt_of_le hi h.size) hs).trans (h.block i hi hs)⟩
theorem Ch.mono {S S' : Nat → Prop} {a b : World} (h : Ch S a b) (hS : ∀ k, S k → S' k) : Ch S' a b :=
  ⟨h.os, h.tape, h.output, h.size, fun i hi hs => h.block i hi fun x => hs (hS i x)⟩
theorem Ch.drew {S : Nat → Prop} {a b : World} (h : Ch S a b) : Ch S a b.drew := ⟨h.os, h.tape, h.output, h.size, h.block⟩
theorem Ch.drewN {S : Nat → Prop} {a b : World} (h : Ch S a b) (n : Nat) : Ch S a (b.drewN n) := ⟨h.os, h.tape, h.output, h.size, h.block⟩
theorem Ch.alloc {S : Nat → Prop} {a b : World} (h : Ch S a b) (o : Obj) : Ch S a (b.alloc o) :=
  ⟨h.os, h.tape, h.output, Nat.le_trans h.size (by simp), fun k hk hs => (Below.heap_alloc b o k (Nat.lt_of_lt_of_le hk h.size)).trans (h.block k hk hs)⟩
/-- a store into a block of S, or into a new one -/
theorem Ch.setCell {S : Nat → Prop} {a b : World} (h : Ch S a b) {p : Addr} (hp : S p.block ∨ a.heap.size ≤ p.block) (u : Value) : Ch S a (b.setCell p u) :=
  ⟨h.os, h.tape, h.output, by simpa [World.setCell] using h.size, fun k hk hs => (Below.heap_setCell b p u k (by
    rintro rfl
    rcases hp with hp | hp
    · exact hs hp
    · omega)).trans (h.block k hk hs)⟩
theorem Ch.of_below {S : Nat → Prop} {a b : World} (h : Below a.heap.size a b) : Ch S a b := ⟨h.os, h.tape, h.output, h.size, fun k hk _ => h.block k hk⟩
theorem Ch.below {S : Nat → Prop} {a b : World} {B : Nat} (h : Ch S a b) (hB : B ≤ a.heap.size) (hS : ∀ k, S k → B ≤ k) : Below B a b :=
  ⟨h.os, h.tape, h.output, h.size, fun k hk => h.block k (Nat.lt_of_lt_of_le hk hB) fun x => by have := hS k x; omega⟩
theorem Ch.cell {S : Nat → Prop} {a b : World} (h : Ch S a b) {p : Addr} (hp : p.block < a.heap.size) (hs : ¬ S p.block) : b.cell? p = a.cell? p := World.cell?_of_block (w := a) (h.block p.block hp hs)
/-- then only a block from the first heap's size on has turned -/
theorem Ch.after {S : Nat → Prop} {a b c : World} {R : Nat} (h : Ch S a b) (k : Ch (· = R) b c) (hR : a.heap.size ≤ R) : Ch S a c :=
  ⟨k.os.trans h.os, k.tape.trans h.tape, k.output.trans h.output, Nat.le_trans h.size k.size, fun i hi hs => (k.block i (Nat.lt_of_lt_of_le hi h.size) (by show ¬ i = R; omega)).trans (h.block i hi hs)⟩
theorem Ch.at {S : Nat → Prop} {a b : World} (h : Ch S a b) {k : Nat} {o : Obj} (ho : a.heap[k]? = some o) (hs : ¬ S k) : b.heap[k]? = some o :=
  (h.block k (Array.getElem?_eq_some_iff.1 ho).1 hs).trans ho

end Go.Proofs.YtliiehfjcplieaaDoor
