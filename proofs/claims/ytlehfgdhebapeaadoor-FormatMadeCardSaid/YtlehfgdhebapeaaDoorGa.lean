/- Plain: programs as trees, their rows and texts. -/
import Derived.Test.YtlehfgdhebapeaaDoorNa
import Derived.Test.YtlehfgdhebapeaaDoorA5
set_option linter.all false
namespace Go.Proofs.YtlehfgdhebapeaaDoor.KM
open Go
/-! expressions -/
structure Xp where
  op : Int
  n : Int
  nm : List UInt8
  z : Bool
  t : Nat
  l : List Xp
mutual
def Xp.row : Xp → List V
  | ⟨op, n, nm, z, t, l⟩ => [.int .i64 op, .int .i64 n, .str nm, SL z t (Xp.rows l)]
def Xp.rows : List Xp → List (List V)
  | [] => []
  | x :: l => x.row :: Xp.rows l
end
theorem xrows_map : ∀ l : List Xp, Xp.rows l = l.map Xp.row
  | [] => rfl
  | x :: l => by rw [Xp.rows, xrows_map l]; rfl
theorem xrow_def (x : Xp) : x.row = [.int .i64 x.op, .int .i64 x.n, .str x.nm, SL x.z x.t (x.l.map Xp.row)] := by
  rw [← xrows_map]
  cases x
  rfl
def Xp.zero : Xp := ⟨0, 0, [], true, 0, []⟩
def sgE (op : Int) : List UInt8 :=
  match op with
  | 4 => [45] | 5 => [33] | 6 => [43] | 7 => [45] | 8 => [42] | 9 => [47] | 10 => [37] | 11 => [61, 61] | 12 => [33, 61] | 13 => [60] | 14 => [60, 61] | 15 => [62] | 16 => [62, 61] | 17 => [38, 38] | 18 => [124, 124] | _ => []
def lvE (op : Int) : Int :=
  match op with
  | 4 => 6 | 5 => 6 | 6 => 4 | 7 => 4 | 8 => 5 | 9 => 5 | 10 => 5 | 11 => 3 | 12 => 3 | 13 => 3 | 14 => 3 | 15 => 3 | 16 => 3 | 17 => 2 | 18 => 1 | _ => 7
def arE (op : Int) : Int := if op = 1 ∨ op = 2 then 0 else if 3 ≤ op ∧ op ≤ 5 then 1 else if 6 ≤ op ∧ op ≤ 18 then 2 else -1
/-- an operand's text at a place that asks for a level -/
def putE (o : Int × List UInt8) (level : Int) : List UInt8 := if lvE o.1 < level then 40 :: (o.2 ++ [41]) else o.2
def leftE (op : Int) : Int := if lvE op = 3 then 4 else lvE op
def combE (op n : Int) (nm : List UInt8) (ts : List (Int × List UInt8)) : List UInt8 :=
  if op = 1 then itoaE n else if op = 2 then nm else
  match ts with
  | [a] => if op = 3 then nm ++ 91 :: (a.2 ++ [93]) else sgE op ++ putE a 6
  | [a, b] => putE a (leftE op) ++ 32 :: (sgE op ++ 32 :: putE b (lvE op + 1))
  | _ => []
mutual
def Xp.txt : Xp → List UInt8
  | ⟨op, n, nm, _, _, l⟩ => combE op n nm (Xp.txts l)
def Xp.txts : List Xp → List (Int × List UInt8)
  | [] => []
  | x :: l => (x.op, x.txt) :: Xp.txts l
end
theorem xtxts_map : ∀ l : List Xp, Xp.txts l = l.map fun x => (x.op, x.txt)
  | [] => rfl
  | x :: l => by rw [Xp.txts, xtxts_map l]; rfl
theorem xtxt_def (x : Xp) : x.txt = combE x.op x.n x.nm (x.l.map fun x => (x.op, x.txt)) := by
  rw [← xtxts_map]
  cases x
  rfl
/-- every operator has as many operands as it wants -/
inductive Cn : Xp → Prop
  | num {n : Int} {nm : List UInt8} {z : Bool} {t : Nat} : -9223372036854775808 ≤ n ∧ n ≤ 9223372036854775807 → Cn ⟨1, n, nm, z, t, []⟩
  | name {n : Int} {nm : List UInt8} {z : Bool} {t : Nat} : Cn ⟨2, n, nm, z, t, []⟩
  | idx {n : Int} {nm : List UInt8} {z : Bool} {t : Nat} {a : Xp} : Cn a → Cn ⟨3, n, nm, z, t, [a]⟩
  | un {op n : Int} {nm : List UInt8} {z : Bool} {t : Nat} {a : Xp} : op = 4 ∨ op = 5 → Cn a → Cn ⟨op, n, nm, z, t, [a]⟩
  | bin {op n : Int} {nm : List UInt8} {z : Bool} {t : Nat} {a b : Xp} : 6 ≤ op ∧ op ≤ 18 → Cn a → Cn b → Cn ⟨op, n, nm, z, t, [a, b]⟩
/-! statements -/
structure Sp where
  op : Int
  line : Int
  nm : List UInt8
  arg : List UInt8
  iz : Bool
  it : Nat
  idx : List Xp
  ex : Xp
  bz : Bool
  bt : Nat
  body : List Sp
  ez : Bool
  et : Nat
  els : List Sp
mutual
def Sp.row : Sp → List V
  | ⟨op, line, nm, arg, iz, it, idx, ex, bz, bt, body, ez, et, els⟩ => [.int .i64 op, .int .i64 line, .str nm, .str arg, SL iz it (idx.map Xp.row)] ++ ex.row ++ [SL bz bt (Sp.rows body), SL ez et (Sp.rows els)]
def Sp.rows : List Sp → List (List V)
  | [] => []
  | x :: l => x.row :: Sp.rows l
end
theorem srows_map : ∀ l : List Sp, Sp.rows l = l.map Sp.row
  | [] => rfl
  | x :: l => by rw [Sp.rows, srows_map l]; rfl
theorem srow_def (s : Sp) : s.row = [.int .i64 s.op, .int .i64 s.line, .str s.nm, .str s.arg, SL s.iz s.it (s.idx.map Xp.row)] ++ s.ex.row ++ [SL s.bz s.bt (s.body.map Sp.row), SL s.ez s.et (s.els.map Sp.row)] := by
  rw [← srows_map, ← srows_map]
  cases s
  rfl
def wordE (op : Int) : List UInt8 :=
  match op with
  | 2 => [105, 102] | 3 => [119, 104, 105, 108, 101] | 4 => [108, 111, 99, 107] | 5 => [114, 101, 97, 100] | 6 => [119, 114, 105, 116, 101] | 7 => [116, 114, 97, 110, 115, 97, 99, 116, 105, 111, 110] | 8 => [97, 116, 111, 109, 105, 99] | 9 => [119, 97, 105, 116] | 10 => [110, 111, 116, 105, 102, 121] | 11 => [110, 111, 116, 105, 102, 121, 97, 108, 108] | 12 => [115, 112, 97, 119, 110] | 13 => [106, 111, 105, 110] | 14 => [115, 101, 116] | 15 => [103, 101, 116] | _ => []
def idxE (l : List Xp) : List UInt8 := match l with
  | a :: _ => 91 :: (a.txt ++ [93])
  | [] => []
/-- a statement up to its semicolon or brace -/
def headE (s : Sp) : List UInt8 :=
  if s.op = 1 then s.nm ++ (idxE s.idx ++ 32 :: 61 :: 32 :: s.ex.txt)
  else if s.op = 2 ∨ s.op = 3 then wordE s.op ++ 32 :: s.ex.txt
  else if s.op = 7 ∨ s.op = 8 then wordE s.op
  else if s.op = 14 then wordE s.op ++ 32 :: (s.nm ++ 32 :: s.ex.txt)
  else if s.op = 15 then wordE s.op ++ 32 :: (s.nm ++ 32 :: s.arg)
  else wordE s.op ++ 32 :: s.nm
def indE (d : Nat) : List UInt8 := List.replicate (2 * d) 32
def bodyE (op : Int) : Bool := decide (2 ≤ op) && decide (op ≤ 8)
mutual
def Sp.txt : Nat → Sp → List UInt8
  | d, ⟨op, line, nm, arg, iz, it, idx, ex, bz, bt, body, ez, et, els⟩ =>
    indE d ++ (headE ⟨op, line, nm, arg, iz, it, idx, ex, bz, bt, body, ez, et, els⟩ ++
      if bodyE op then 32 :: 123 :: 10 :: (Sp.txts (d + 1) body ++ ((if els.isEmpty then [] else indE d ++ 125 :: 32 :: 101 :: 108 :: 115 :: 101 :: 32 :: 123 :: 10 :: Sp.txts (d + 1) els) ++ (indE d ++ [125, 10]))) else [59, 10])
def Sp.txts : Nat → List Sp → List UInt8
  | _, [] => []
  | d, x :: l => x.txt d ++ Sp.txts d l
end
/-- what a shaped statement has -/
inductive CnS : Sp → Prop
  | mk {s : Sp} : 1 ≤ s.op ∧ s.op ≤ 15 → s.idx.length ≤ 1 → (s.op ≠ 1 → s.idx = []) → (∀ x ∈ s.idx, Cn x) → ((s.op = 1 ∨ s.op = 2 ∨ s.op = 3 ∨ s.op = 14) → Cn s.ex) → (bodyE s.op = false → s.body = []) → (s.op ≠ 2 → s.els = []) → (∀ x ∈ s.body, CnS x) → (∀ x ∈ s.els, CnS x) → CnS s
/-! declarations, threads, programs -/
structure Dp where
  kind : Int
  line : Int
  nm : List UInt8
  size : Int
  init : Int
  on : List UInt8
def Dp.row (d : Dp) : List V := [.int .i64 d.kind, .int .i64 d.line, .str d.nm, .int .i64 d.size, .int .i64 d.init, .str d.on]
def initE (n : Int) : List UInt8 := if n = 0 then [] else 32 :: 61 :: 32 :: itoaE n
def declE (d : Dp) : List UInt8 :=
  if d.kind = 1 then [118, 97, 114, 32] ++ (d.nm ++ ((if d.size = 0 then [] else 91 :: (itoaE d.size ++ [93])) ++ initE d.init))
  else if d.kind = 2 then [118, 111, 108, 97, 116, 105, 108, 101, 32] ++ (d.nm ++ initE d.init)
  else if d.kind = 3 then [109, 117, 116, 101, 120, 32] ++ d.nm
  else if d.kind = 4 then [114, 119, 108, 111, 99, 107, 32] ++ d.nm
  else if d.kind = 5 then [99, 111, 110, 100, 32] ++ (d.nm ++ 32 :: d.on)
  else [102, 117, 116, 117, 114, 101, 32] ++ d.nm
structure CnD (d : Dp) : Prop where
  kind : 1 ≤ d.kind ∧ d.kind ≤ 6
  size : 0 ≤ d.size ∧ d.size ≤ 9223372036854775807 ∧ (d.kind ≠ 1 → d.size = 0)
  init : -9223372036854775808 ≤ d.init ∧ d.init ≤ 9223372036854775807 ∧ (d.kind ≠ 1 → d.kind ≠ 2 → d.init = 0)
structure Tp where
  nm : List UInt8
  line : Int
  lz : Bool
  lt : Nat
  locals : List (List UInt8)
  bz : Bool
  bt : Nat
  body : List Sp
def Tp.row (t : Tp) : List V := [.str t.nm, .int .i64 t.line, SL t.lz t.lt (t.locals.map fun s => [V.str s]), SL t.bz t.bt (t.body.map Sp.row)]
def joinE : List (List UInt8) → List UInt8
  | [] => []
  | [a] => a
  | a :: b :: l => a ++ 44 :: 32 :: joinE (b :: l)
def thrE (t : Tp) : List UInt8 := [116, 104, 114, 101, 97, 100, 32] ++ (t.nm ++ 40 :: (joinE t.locals ++ 41 :: 32 :: 123 :: 10 :: (Sp.txts 1 t.body ++ [125, 10])))
structure Gp where
  dz : Bool
  dt : Nat
  decls : List Dp
  tz : Bool
  tt : Nat
  thrs : List Tp
def Gp.row (p : Gp) : List V := [SL p.dz p.dt (p.decls.map Dp.row), SL p.tz p.tt (p.thrs.map Tp.row)]
def progE (p : Gp) : List UInt8 := (p.decls.map fun d => declE d ++ [59, 10]).flatten ++ (p.thrs.map thrE).flatten
structure CnG (p : Gp) : Prop where
  decls : ∀ d ∈ p.decls, CnD d
  thrs : ∀ t ∈ p.thrs, ∀ s ∈ t.body, CnS s
end Go.Proofs.YtlehfgdhebapeaaDoor.KM
