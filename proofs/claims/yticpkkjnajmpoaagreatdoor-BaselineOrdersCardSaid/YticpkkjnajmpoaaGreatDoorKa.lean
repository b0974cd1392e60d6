/- THE PLAIN MACHINE, SECOND FORM: values without addresses, objects that may change, operations, code, and what comes of it. No program is named here. -/
import Derived.WalkKit
set_option linter.all false
namespace Go.Proofs.YticpkkjnajmpoaaGreatDoor.KM
open Go

/-- values: literals, settled slices by their rows, pointers and slices into settled rows and into objects (i: the object, g: its generation), functions, structs by their cells -/
inductive V where
  | und
  | skp
  | bool (b : Bool)
  | int (k : IntKind) (n : Int)
  | str (l : List UInt8)
  | nili
  | ifc
  | nils
  | nilp
  | nilf
  | lst (t : Nat) (xs : List (List V))
  | imm (row : List V) (off : Nat)
  | ptr (i g off : Nat)
  | sl (i g off len m : Nat) (own : Bool)
  | fn (f : Nat) (a c : List V)
  | mp (i : Nat)
  | agg (cs : List V)
  | tup (vs : List V)

/-- operands -/
inductive S where
  | t (n : Nat)
  | k (v : V)

/-- what '==' compares: bools; slices, pointers, functions, interfaces with nil; structs of n cells of numbers, strings and bools -/
inductive EqK where
  | bool | nilsl | nilpt | nilfn | nilif | flat (ks : List Nat)

inductive AO where
  | mov (x : S)
  | pick (c a b : S)
  | new (t : Nat) (z : List V)
  | box (t : Nat) (x : S)
  | build (z : List V) (ps : List (Nat × Nat × S))
  | rows (n : Nat) (z : List V) (ps : List (Nat × S))
  | rowf (n : Nat) (z : List V) (ps : List (Nat × S))
  | rowo (t n : Nat) (z : List V) (ps : List (Nat × S))
  | mk (t bytes : Nat) (z : List V) (x y : S)
  | load (n : Nat) (one : Bool) (x : S)
  | store (n : Nat) (x v : S)
  | chk (x : S)
  | bin (o : BinOp) (x y : S)
  | eq (k : EqK) (neg : Bool) (x y : S)
  | un (o : UnOp) (x : S)
  | cvi (k : IntKind) (x : S)
  | cvs (x : S)
  | cvl (x : S)
  | stb (ty : Nat) (x : S)
  | bts (x : S)
  | slc (m : Nat) (x : S) (lo hi mx : Option S)
  | slcs (x : S) (lo hi : Option S)
  | slca (len m : Nat) (x : S) (lo hi : Option S)
  | fad (off : Nat) (x : S)
  | fld (off n : Nat) (one : Bool) (x : S)
  | iad (m : Nat) (x i : S)
  | iar (len m : Nat) (x i : S)
  | idx (x i : S)
  | ida (len m : Nat) (one : Bool) (x i : S)
  | ext (i : Nat) (x : S)
  | len (x : S)
  | lens (x : S)
  | app (bytes : Nat) (m : Nat × Nat) (x y : S)
  | apps (ty : Nat) (x y : S)
  | mx (x y : S)
  | mn (x y : S)
  | mkf (f : Nat) (a c : List S)
  | mmk
  | mlk (z : V) (x k : S)
  | mup (x k v : S)
  | call (f : Nat) (xs : List S)
  | callv (x : S) (xs : List S)

/-- an operation: where its value goes, its guard (a slot and what it must hold) -/
structure AI where
  dst : Option Nat
  op : AO
  g : Option (Nat × Bool) := none

inductive AC where
  | skip
  | reg (kill : List Nat) (ops : List AI)
  | drw (kill : List Nat) (deps : List (List Nat)) (ops : List AI)
  | seq (a b : AC)
  | cond (c : S) (kill : List Nat) (x y : AC)
  | blk (id : Nat) (c : AC)
  | loop (keep : List Nat) (c : AC)
  | exit (id : Nat)
  | ret

inductive It where
  | c (c : AC)
  | b (id : Nat)
  | l (keep : List Nat) (c : AC)

abbrev Env := List (Nat × V)
def Env.get : Env → Nat → V
  | [], _ => .und
  | (m, v) :: r, n => if m = n then v else Env.get r n
def Env.put : Env → Nat → V → Env
  | [], n, v => [(n, v)]
  | (m, u) :: r, n, v => if m = n then (n, v) :: r else (m, u) :: Env.put r n v
def Env.putO (e : Env) (d : Option Nat) (v : V) : Env :=
  match d with
  | some n => e.put n v
  | none => e
def Env.del : Env → List Nat → Env
  | [], _ => []
  | (m, v) :: r, ks => if ks.elem m then Env.del r ks else (m, v) :: Env.del r ks
def Env.keep (e : Env) : List Nat → Env
  | [] => []
  | n :: r => (n, e.get n) :: Env.keep e r

/-- objects: cells of a block (e: its type, g: how often it has grown, z: so many of its first cells are settled), and maps by strings (in the order in which the keys came) -/
inductive Ob where
  | row (cs : List V) (e g z : Nat)
  | map (kvs : List (List UInt8 × V))
  | dead
abbrev St := List Ob

def src (e : Env) : S → V
  | .t n => e.get n
  | .k v => v

/-- one cell -/
def V.cellB : V → Bool
  | .und | .skp | .agg _ | .tup _ => false
  | _ => true
/-- may lie in a settled row -/
def V.rowB : V → Bool
  | .bool _ | .int _ _ | .str _ | .nili | .nils | .lst _ _ => true
  | _ => false
def V.cells : V → List V
  | .agg cs => cs
  | v => [v]
def mkOne (one : Bool) (cs : List V) : Option V :=
  if one then (match cs with
    | [c] => some c
    | _ => none) else some (.agg cs)
def putAt (cs : List V) (off : Nat) (r : List V) : Option (List V) :=
  if off + r.length ≤ cs.length then some (cs.take off ++ r ++ cs.drop (off + r.length)) else none
def fills (cs : List V) : List (Nat × Nat × V) → Option (List V)
  | [] => some cs
  | (off, n, v) :: r => if v.cells.all V.cellB = true ∧ v.cells.length = n then (putAt cs off v.cells).bind fun cs' => fills cs' r else none
/-- n rows of m cells -/
def chop (m : Nat) : Nat → List V → List (List V)
  | 0, _ => []
  | n + 1, cs => cs.take m :: chop m n (cs.drop m)

/-! which objects a value names -/
mutual
def V.refs : V → List Nat
  | .ptr i _ _ => [i]
  | .sl i _ _ _ _ _ => [i]
  | .mp i => [i]
  | .fn _ a c => refsL a ++ refsL c
  | .agg cs => refsL cs
  | .tup vs => refsL vs
  | _ => []
def refsL : List V → List Nat
  | [] => []
  | v :: r => v.refs ++ refsL r
end
def Ob.refs : Ob → List Nat
  | .row cs _ _ _ => refsL cs
  | .map kvs => refsL (kvs.map (·.2))
  | .dead => []
/-- the objects that are named by js and by the objects that js names, and so on -/
def clo (σ : St) : Nat → List Nat → List Nat
  | 0, js => js
  | d + 1, js =>
    let new := (js.flatMap fun i => match σ[i]? with
      | some ob => ob.refs
      | none => []).filter fun i => !js.elem i
    if new.isEmpty then js else clo σ d (js ++ new.eraseDups)

/-! settled copies: what lies in the objects js is taken as it stands -/
def settle (σ : St) (js : List Nat) : Nat → V → Option V
  | 0, _ => none
  | d + 1, v =>
    if v.rowB then some v else
    match v with
    | .sl i g off len m _ => if js.elem i then (match σ[i]? with
      | some (.row cs _ g' _) => if g = g' ∧ 0 < m ∧ off + len * m ≤ cs.length then (((cs.drop off).take (len * m)).mapM (settle σ js d)).map fun rs => .lst 0 (chop m len rs) else none
      | _ => none) else none
    | _ => none
def settle1 (σ : St) (js : List Nat) (v : V) : Option V :=
  match v with
  | .imm r o => some (.imm r o)
  | .agg cs => (cs.mapM (settle σ js 9)).map .agg
  | v => settle σ js 9 v
def settleV (σ : St) (js : List Nat) (v : V) : Option V :=
  match v with
  | .tup vs => (vs.mapM (settle1 σ js)).map .tup
  | v => settle1 σ js v
/-- no more than numbers, strings and bools -/
def V.flatB : V → Bool
  | .bool _ | .int _ _ | .str _ | .nili | .ifc | .nils | .nilp | .nilf => true
  | _ => false
def V.flatV : V → Bool
  | .agg cs => cs.all V.flatB
  | .tup vs => vs.all fun v => v.cells.all V.flatB
  | v => v.flatB
def Ob.shut : Ob → Ob
  | .row cs e g _ => .row cs e g cs.length
  | o => o
/-- the objects js are settled -/
def St.freeze (σ : St) : List Nat → St
  | [] => σ
  | i :: js => match σ[i]? with
    | some ob => St.freeze (σ.set i ob.shut) js
    | none => St.freeze σ js

def loadV (σ : St) (n : Nat) (one : Bool) : V → Option V
  | .imm row off => if off + n ≤ row.length then mkOne one ((row.drop off).take n) else none
  | .ptr i g off => match σ[i]? with
    | some (.row cs _ g' _) => if g = g' ∧ off + n ≤ cs.length then mkOne one ((cs.drop off).take n) else none
    | _ => none
  | _ => none
def storeV (σ : St) (n : Nat) (x v : V) : Option St :=
  match x with
  | .ptr i g off => match σ[i]? with
    | some (.row cs e g' z) => if g = g' ∧ z ≤ off ∧ v.cells.length = n ∧ v.cells.all V.cellB = true then (putAt cs off v.cells).map fun cs' => σ.set i (.row cs' e g z) else none
    | _ => none
  | _ => none

def eqS : Nat → V → V → Option Bool
  | 0, .bool a, .bool b => some (a == b)
  | 1, .int k a, .int k' b => if k = k' then some (a == b) else none
  | 2, .str a, .str b => some (a == b)
  | _, _, _ => none
def eqRow : List Nat → List V → List V → Option Bool
  | [], [], [] => some true
  | k :: ks, a :: r, b :: s => (eqS k a b).bind fun x => if x then eqRow ks r s else some false
  | _, _, _ => none
def eqB : V → V → Option Bool
  | .bool a, .bool b => some (a == b)
  | _, _ => none
def eqSl : V → V → Option Bool
  | .nils, .nils => some true
  | .nils, .lst _ _ => some false
  | .lst _ _, .nils => some false
  | .nils, .sl _ _ _ _ _ _ => some false
  | .sl _ _ _ _ _ _, .nils => some false
  | _, _ => none
def eqPt : V → V → Option Bool
  | .nilp, .nilp => some true
  | .nilp, .ptr _ _ _ => some false
  | .ptr _ _ _, .nilp => some false
  | .nilp, .imm _ _ => some false
  | .imm _ _, .nilp => some false
  | _, _ => none
def eqFn : V → V → Option Bool
  | .nilf, .nilf => some true
  | .fn _ _ _, .nilf => some false
  | .nilf, .fn _ _ _ => some false
  | _, _ => none
def eqIf : V → V → Option Bool
  | .nili, .nili => some true
  | .ifc, .nili => some false
  | .nili, .ifc => some false
  | _, _ => none
def eqFl (ks : List Nat) : V → V → Option Bool
  | .agg a, .agg b => if a.length = ks.length ∧ b.length = ks.length then eqRow ks a b else none
  | _, _ => none
def eqV (k : EqK) (x y : V) : Option Bool :=
  match k with
  | .bool => eqB x y
  | .nilsl => eqSl x y
  | .nilpt => eqPt x y
  | .nilfn => eqFn x y
  | .nilif => eqIf x y
  | .flat ks => eqFl ks x y
/-- '==' of a pointer or a slice with nil asks whether it is there yet -/
def eqLive (σ : St) : V → Bool
  | .ptr i g _ | .sl i g _ _ _ _ => match σ[i]? with
    | some (.row _ _ g' _) => g == g'
    | _ => false
  | _ => true

def binI (o : BinOp) (k : IntKind) (a : Int) (k' : IntKind) (b : Int) : Option V :=
  match o with
  | .shl => if b < 0 then none else some (.int k (k.wrap (a * 2 ^ (min b.toNat k.bits))))
  | .shr => if b < 0 then none else some (.int k (a.fdiv (2 ^ (min b.toNat k.bits))))
  | .add => if k = k' then some (.int k (k.wrap (a + b))) else none
  | .sub => if k = k' then some (.int k (k.wrap (a - b))) else none
  | .mul => if k = k' then some (.int k (k.wrap (a * b))) else none
  | .quo => if k = k' ∧ b ≠ 0 then some (.int k (k.wrap (a.tdiv b))) else none
  | .rem => if k = k' ∧ b ≠ 0 then some (.int k (a.tmod b)) else none
  | .and => if k = k' then some (.int k (k.wrap (BitVec.ofInt k.bits a &&& BitVec.ofInt k.bits b).toNat)) else none
  | .or => if k = k' then some (.int k (k.wrap (BitVec.ofInt k.bits a ||| BitVec.ofInt k.bits b).toNat)) else none
  | .xor => if k = k' then some (.int k (k.wrap (BitVec.ofInt k.bits a ^^^ BitVec.ofInt k.bits b).toNat)) else none
  | .lss => if k = k' then some (.bool (decide (a < b))) else none
  | .leq => if k = k' then some (.bool (decide (a ≤ b))) else none
  | .gtr => if k = k' then some (.bool (decide (a > b))) else none
  | .geq => if k = k' then some (.bool (decide (a ≥ b))) else none
  | .eql => if k = k' then some (.bool (a == b)) else none
  | .neq => if k = k' then some (.bool (a != b)) else none
  | _ => none
def binS (o : BinOp) (a b : List UInt8) : Option V :=
  match o with
  | .add => if a.length + b.length ≤ 9223372036854775807 then some (.str (a ++ b)) else none
  | .lss => some (.bool (Op.bytesLess a b))
  | .leq => some (.bool (Op.bytesLess a b || a == b))
  | .gtr => some (.bool !(Op.bytesLess a b || a == b))
  | .geq => some (.bool !(Op.bytesLess a b))
  | .eql => some (.bool (a == b))
  | .neq => some (.bool !(a == b))
  | _ => none
def binV (o : BinOp) (x y : V) : Option V :=
  match x, y with
  | .int k a, .int k' b => binI o k a k' b
  | .str a, .str b => binS o a b
  | _, _ => none

def unV (o : UnOp) (x : V) : Option V :=
  match o, x with
  | .neg, .int k n => some (.int k (k.wrap (0 - n)))
  | .not, .bool b => some (.bool !b)
  | .xor, .int k n => some (.int k (k.wrap (BitVec.ofInt k.bits (if k.signed then -1 else k.max) ^^^ BitVec.ofInt k.bits n).toNat))
  | _, _ => none

def boundV (z : Option V) (d : Nat) : Option Nat :=
  match z with
  | none => some d
  | some (.int _ n) => if 0 ≤ n then some n.toNat else none
  | _ => none
def slcS (x : V) (lo hi : Option V) : Option V :=
  match x with
  | .str l => (boundV lo 0).bind fun a => (boundV hi l.length).bind fun b => if a ≤ b ∧ b ≤ l.length then some (.str ((l.take b).drop a)) else none
  | _ => none
def slcV (m : Nat) (x : V) (lo hi mx : Option V) : Option V :=
  match x with
  | .nils => (boundV lo 0).bind fun a => (boundV hi 0).bind fun b => (boundV mx 0).bind fun c => if a = 0 ∧ b = 0 ∧ c = 0 then some .nils else none
  | .lst t xs => (boundV lo 0).bind fun a => (boundV hi xs.length).bind fun b => (boundV mx b).bind fun c =>
      if a ≤ b ∧ b ≤ xs.length ∧ c = b ∧ (a = 0 ∨ (xs.all fun r => r.length == m) = true) then some (.lst (if mx.isSome then 1 else if b = xs.length ∧ t = 1 then 1 else 0) ((xs.take b).drop a)) else none
  | .sl i g off len m' own => if mx.isSome then none else (boundV lo 0).bind fun a => (boundV hi len).bind fun b => if m = m' ∧ a ≤ b ∧ b ≤ len then some (.sl i g (off + a * m) (b - a) m own) else none
  | _ => none

def byteRows (l : List UInt8) : List (List V) := l.map fun c => [V.int .u8 (c.toNat : Int)]
def rowsByte : List (List V) → Option (List UInt8)
  | [] => some []
  | [.int .u8 n] :: r => if 0 ≤ n ∧ n < 256 then (rowsByte r).map fun l => UInt8.ofNat n.toNat :: l else none
  | _ => none
/-- the rows of a slice -/
def srcRows (σ : St) (m : Nat) : V → Option (List (List V))
  | .nils => some []
  | .lst _ ys => some ys
  | .sl i g off len m' _ => match σ[i]? with
    | some (.row cs _ g' _) => if g = g' ∧ m = m' ∧ off + len * m ≤ cs.length then some (chop m len (cs.drop off)) else none
    | _ => none
  | _ => none
/-- append -/
def appR (bytes : Nat) (m : Nat × Nat) (σ : St) (x : V) (ys : List (List V)) : Option (V × St) :=
    if (ys.all fun r => r.length == m.1) = true ∧ 0 < m.1 then
      match x with
      | .nils => if ys.length * bytes ≤ 140737488355328 then (if ys.isEmpty then some (.nils, σ) else some (.sl σ.length 0 0 ys.length m.1 true, σ ++ [.row ys.flatten m.2 0 0])) else none
      | .lst t xs => if (xs.length + ys.length) * bytes ≤ 140737488355328 then
          (if ys.isEmpty then some (.lst t xs, σ)
          else if t = 1 ∧ (xs.all fun r => r.length == m.1) = true then some (.sl σ.length 0 0 (xs.length + ys.length) m.1 true, σ ++ [.row (xs.flatten ++ ys.flatten) m.2 0 0]) else none) else none
      | .sl i g off len m' own => if (len + ys.length) * bytes ≤ 140737488355328 ∧ m' = m.1 then (match σ[i]? with
        | some (.row cs e g' z) => if g = g' then
            (if ys.isEmpty then some (.sl i g off len m' own, σ)
            else if own = true ∧ off = 0 ∧ e = m.2 ∧ z ≤ len * m' then
              (if (len + ys.length) * m' ≤ cs.length then some (.sl i g 0 (len + ys.length) m' true, σ.set i (.row (cs.take (len * m') ++ ys.flatten ++ cs.drop ((len + ys.length) * m')) e g z))
              else if cs.length = len * m' then some (.sl i (g + 1) 0 (len + ys.length) m' true, σ.set i (.row (cs ++ ys.flatten) e (g + 1) z)) else none)
            else none) else none
        | _ => none) else none
      | _ => none
    else none

def atI {α : Type} (l : List α) : V → Option α
  | .int _ n => if 0 ≤ n then l[n.toNat]? else none
  | _ => none
def findK (k : List UInt8) : List (List UInt8 × V) → Nat → Option (Nat × V)
  | [], _ => none
  | (k', v) :: r, i => if k' == k then some (i, v) else findK k r (i + 1)

def evalOp (o : AO) (e : Env) (σ : St) : Option (V × St) :=
  match o with
  | .mov x => some (src e x, σ)
  | .pick c a b => match src e c with
    | .bool z => some (if z then src e a else src e b, σ)
    | _ => none
  | .new t z => some (.ptr σ.length 0 0, σ ++ [.row z t 0 0])
  | .box t x => if (src e x).cells.all V.cellB then some (.ptr σ.length 0 0, σ ++ [.row (src e x).cells t 0 0]) else none
  | .build z ps => (fills z (ps.map fun p => (p.1, p.2.1, src e p.2.2))).map fun cs => (.agg cs, σ)
  | .rows n z ps => (fills (List.replicate n z).flatten (ps.map fun p => (p.1 * z.length, z.length, src e p.2))).bind fun cs => if cs.all V.rowB then some (.lst 1 (chop z.length n cs), σ) else none
  | .rowf n z ps => (fills (List.replicate n z).flatten (ps.map fun p => (p.1 * z.length, z.length, src e p.2))).bind fun cs =>
      (cs.mapM (settle σ (clo σ 9 (refsL cs).eraseDups) 9)).map fun cs' => (.lst 1 (chop z.length n cs'), σ.freeze (clo σ 9 (refsL cs).eraseDups))
  | .rowo t n z ps => (fills (List.replicate n z).flatten (ps.map fun p => (p.1 * z.length, z.length, src e p.2))).map fun cs => (.sl σ.length 0 0 n z.length true, σ ++ [.row cs t 0 0])
  | .mk t bytes z x y => match src e x, src e y with
    | .int .i64 n, .int .i64 c => if 0 ≤ n ∧ n ≤ c ∧ c.toNat * bytes ≤ 140737488355328 then some (.sl σ.length 0 0 n.toNat z.length true, σ ++ [.row (List.replicate n.toNat z).flatten t 0 0]) else none
    | _, _ => none
  | .load n one x => (loadV σ n one (src e x)).map fun v => (v, σ)
  | .store n x v => (storeV σ n (src e x) (src e v)).map fun σ' => (.und, σ')
  | .chk x => match src e x with
    | .imm r o => some (.imm r o, σ)
    | .ptr b g o => some (.ptr b g o, σ)
    | _ => none
  | .bin o x y => (binV o (src e x) (src e y)).map fun v => (v, σ)
  | .eq k neg x y => (eqV k (src e x) (src e y)).map fun z => (.bool (z != neg), σ)
  | .un o x => (unV o (src e x)).map fun v => (v, σ)
  | .cvi k x => match src e x with
    | .int _ n => some (.int k (k.wrap n), σ)
    | _ => none
  | .cvs x => match src e x with
    | .str l => some (.str l, σ)
    | _ => none
  | .cvl x => match src e x with
    | .sl i g off len m w => match σ[i]? with
      | some (.row _ _ g' z) => if g = g' ∧ z = 0 then some (.sl i g off len m w, σ) else none
      | _ => none
    | _ => none
  | .stb ty x => match src e x with
    | .str l => some (.sl σ.length 0 0 l.length 1 true, σ ++ [.row (byteRows l).flatten ty 0 0])
    | _ => none
  | .bts x => (srcRows σ 1 (src e x)).bind fun xs => (rowsByte xs).map fun l => (.str l, σ)
  | .slcs x lo hi => (slcS (src e x) (lo.map (src e)) (hi.map (src e))).map fun v => (v, σ)
  | .slc m x lo hi mx => (slcV m (src e x) (lo.map (src e)) (hi.map (src e)) (mx.map (src e))).map fun v => (v, σ)
  | .slca len m x lo hi => match src e x with
    | .ptr i g off => (boundV (lo.map (src e)) 0).bind fun a => (boundV (hi.map (src e)) len).bind fun b => if a ≤ b ∧ b ≤ len then some (.sl i g (off + a * m) (b - a) m false, σ) else none
    | _ => none
  | .fad off x => match src e x with
    | .imm r o => some (.imm r (o + off), σ)
    | .ptr b g o => some (.ptr b g (o + off), σ)
    | _ => none
  | .fld off n one x => match src e x with
    | .agg cs => if off + n ≤ cs.length then (mkOne one ((cs.drop off).take n)).map fun v => (v, σ) else none
    | _ => none
  | .iad m x i => match src e x with
    | .lst _ xs => (atI xs (src e i)).bind fun r => if r.length = m then some (.imm r 0, σ) else none
    | .sl j g off len m' _ => match src e i with
      | .int _ n => if 0 ≤ n ∧ n < len ∧ m = m' then some (.ptr j g (off + n.toNat * m), σ) else none
      | _ => none
    | _ => none
  | .iar len m x i => match src e i with
    | .int _ n => if 0 ≤ n ∧ n < len then (match src e x with
      | .imm r o => some (.imm r (o + n.toNat * m), σ)
      | .ptr b g o => some (.ptr b g (o + n.toNat * m), σ)
      | _ => none) else none
    | _ => none
  | .idx x i => match src e x with
    | .str l => (atI l (src e i)).map fun c => (.int .u8 (c.toNat : Int), σ)
    | _ => none
  | .ida len m one x i => match src e i with
    | .int _ n => if 0 ≤ n ∧ n < len then (match src e x with
      | .agg cs => if n.toNat * m + m ≤ cs.length then (mkOne one ((cs.drop (n.toNat * m)).take m)).map fun v => (v, σ) else none
      | _ => none) else none
    | _ => none
  | .ext i x => match src e x with
    | .tup vs => (vs[i]?).map fun v => (v, σ)
    | _ => none
  | .lens x => match src e x with
    | .str l => some (.int .i64 (l.length : Int), σ)
    | _ => none
  | .len x => match src e x with
    | .nils => some (.int .i64 0, σ)
    | .lst _ xs => some (.int .i64 (xs.length : Int), σ)
    | .sl _ _ _ len _ _ => some (.int .i64 (len : Int), σ)
    | _ => none
  | .app bytes m x y => (srcRows σ m.1 (src e y)).bind fun ys => appR bytes m σ (src e x) ys
  | .apps ty x y => match src e y with
    | .str l => appR 1 (1, ty) σ (src e x) (byteRows l)
    | _ => none
  | .mx x y => match src e x, src e y with
    | .int k a, .int k' b => if k = k' then some (.int k (max a b), σ) else none
    | _, _ => none
  | .mn x y => match src e x, src e y with
    | .int k a, .int k' b => if k = k' then some (.int k (min a b), σ) else none
    | _, _ => none
  | .mkf f a c => if (a.map (src e)).all V.cellB && (c.map (src e)).all V.cellB then some (.fn f (a.map (src e)) (c.map (src e)), σ) else none
  | .mmk => some (.mp σ.length, σ ++ [.map []])
  | .mlk z x k => match src e x, src e k with
    | .mp i, .str s => match σ[i]? with
      | some (.map kvs) => some (match findK s kvs 0 with
        | some (_, v) => v
        | none => z, σ)
      | _ => none
    | _, _ => none
  | .mup x k v => match src e x, src e k with
    | .mp i, .str s => match σ[i]? with
      | some (.map kvs) => if (src e v).flatB then some (.und, σ.set i (.map (match findK s kvs 0 with
        | some (j, _) => kvs.set j (s, src e v)
        | none => kvs ++ [(s, src e v)]))) else none
      | _ => none
    | _, _ => none
  | .call _ _ => none
  | .callv _ _ => none

/-- which function is called with what -/
def calleeOf (e : Env) : AO → Option (Nat × List V)
  | .call f xs => some (f, xs.map (src e))
  | .callv x xs => match src e x with
    | .fn f a c => some (f, a ++ xs.map (src e) ++ c)
    | _ => none
  | _ => none

/-- where a result lies -/
inductive AR where
  | tmp (t : Nat)
  | cell (t n : Nat) (one : Bool)

/-- a function: its number of slots for parameters, its results, whether it is threaded, its body -/
structure AF where
  pars : Nat
  res : List AR
  thr : Bool
  body : AC
  spec : Option (List V → St → Option (V × St)) := none

def parEnv : Nat → List V → Env
  | _, [] => []
  | n, v :: vs => (n, v) :: parEnv (n + 1) vs
def resOne (e : Env) (σ : St) : AR → Option V
  | .tmp t => some (e.get t)
  | .cell t n one => loadV σ n one (e.get t)
def resV (e : Env) (σ : St) : List AR → Option V
  | [r] => resOne e σ r
  | rs => (rs.mapM (resOne e σ)).map .tup

def exitTo (id : Nat) : List It → Option (List It)
  | [] => none
  | .b i :: k => if i = id then some k else exitTo id k
  | _ :: k => exitTo id k

def wantedB (e : Env) (i : AI) : Option Bool :=
  match i.g with
  | none => some true
  | some (t, want) => match e.get t with
    | .bool b => some (b == want)
    | .skp => some false
    | _ => none

/-- the orders that the edges allow, as the model draws them -/
def readyB (deps : List (List Nat)) (listed : List Nat) (i : Nat) : Bool := !listed.elem i && (deps.getD i []).all fun j => listed.elem j
def linGo (deps : List (List Nat)) : Nat → Nat → List Nat → List Nat
  | 0, _, acc => acc.reverse
  | fuel + 1, t, acc =>
    let rs := (List.range deps.length).filter (readyB deps acc)
    match rs[t % rs.length]? with
    | some i => linGo deps fuel (t / rs.length) (i :: acc)
    | none => acc.reverse
def lin (deps : List (List Nat)) (t : Nat) : List Nat := linGo deps deps.length t []
def pickAI (ops : List AI) (l : List Nat) : List AI := l.filterMap (ops[·]?)

/-! what a call leaves: the objects that were (n of them), and of the others those that are still named (js), under new numbers -/
def ren (n : Nat) (js : List Nat) (i : Nat) : Nat := if i < n then i else n + js.findIdx (· == i)
mutual
def V.ren (ρ : Nat → Nat) : V → V
  | .ptr i g o => .ptr (ρ i) g o
  | .sl i g o l m w => .sl (ρ i) g o l m w
  | .mp i => .mp (ρ i)
  | .fn f a c => .fn f (renL ρ a) (renL ρ c)
  | .agg cs => .agg (renL ρ cs)
  | .tup vs => .tup (renL ρ vs)
  | v => v
def renL (ρ : Nat → Nat) : List V → List V
  | [] => []
  | v :: r => v.ren ρ :: renL ρ r
end
def Ob.ren (ρ : Nat → Nat) : Ob → Ob
  | .row cs e g z => .row (renL ρ cs) e g z
  | .map kvs => .map (kvs.map fun p => (p.1, p.2.ren ρ))
  | .dead => .dead
def okRes1 : V → Bool
  | .agg cs => cs.all V.cellB
  | v => v.cellB
def okRes : V → Bool
  | .tup vs => vs.all okRes1
  | v => okRes1 v
/-- only objects below n or in js are named -/
def within (n : Nat) (js : List Nat) (is : List Nat) : Bool := is.all fun i => decide (i < n) || js.elem i
/-- nothing of the new objects is named any more -/
def leaveNone (n : Nat) (v : V) (σ' : St) : Bool := okRes v && (within n [] v.refs && (σ'.take n).all fun o => within n [] o.refs)
def leaveSome (n : Nat) (js : List Nat) (v : V) (σ' : St) : Bool :=
  okRes v && (within n js v.refs && (((σ'.take n ++ js.filterMap (σ'[·]?)).all fun o => within n js o.refs) && (decide js.Nodup && js.all fun i => decide (n ≤ i) && decide (i < σ'.length))))
def leave (n : Nat) (v : V) (σ' : St) : Option (V × St) :=
  if leaveNone n v σ' then some (v, σ'.take n) else
    let js := (clo σ' 9 ((v.refs ++ (σ'.take n).flatMap Ob.refs).eraseDups)).filter fun i => decide (n ≤ i)
    if leaveSome n js v σ' then some (v.ren (ren n js), (σ'.take n ++ js.filterMap (σ'[·]?)).map (Ob.ren (ren n js))) else none

inductive J where
  | fn (f : Nat) (args : List V) (σ : St) (v : V) (σ' : St)
  | ops (l : List AI) (e : Env) (σ : St) (e' : Env) (σ' : St)
  | code (k : List It) (e : Env) (σ : St) (e' : Env) (σ' : St)

/-- what goes over to a pure function -/
def jsOf (σ : St) (args : List V) : List Nat := clo σ 9 (refsL args).eraseDups
def over (σ : St) (args : List V) : Option (List V) := args.mapM (settle1 σ (jsOf σ args))
def after (σ : St) (args : List V) (v : V) : St := if v.flatV then σ else σ.freeze (jsOf σ args)
/-- what comes back of it -/
def back (σ' : St) (v : V) : Option V := settleV σ' (clo σ' 9 v.refs.eraseDups) v

/-- WHAT COMES OF CODE. T: the functions; pr: those that are known by what they return -/
inductive Ev (T : Nat → Option AF) (pr : Nat → Option (List V → Option V)) : J → Prop
  | opsNil {e : Env} {σ : St} : Ev T pr (.ops [] e σ e σ)
  | opsSkip {i : AI} {l : List AI} {e e' : Env} {σ σ' : St} : wantedB e i = some false → Ev T pr (.ops l (e.putO i.dst .skp) σ e' σ') → Ev T pr (.ops (i :: l) e σ e' σ')
  | opsVal {i : AI} {l : List AI} {e e' : Env} {σ σ1 σ' : St} {v : V} : wantedB e i = some true → evalOp i.op e σ = some (v, σ1) → Ev T pr (.ops l (e.putO i.dst v) σ1 e' σ') → Ev T pr (.ops (i :: l) e σ e' σ')
  | opsPrim {i : AI} {f : Nat} {args : List V} {l : List AI} {e e' : Env} {σ σ' : St} {s : List V → Option V} {vs : List V} {v : V} : wantedB e i = some true → calleeOf e i.op = some (f, args) → pr f = some s →
      over σ args = some vs → s vs = some v → Ev T pr (.ops l (e.putO i.dst v) (after σ args v) e' σ') → Ev T pr (.ops (i :: l) e σ e' σ')
  | opsPure {i : AI} {f : Nat} {args : List V} {l : List AI} {e e' : Env} {σ σ0 σ' : St} {F : AF} {vs : List V} {v v' : V} : wantedB e i = some true → calleeOf e i.op = some (f, args) → T f = some F → F.thr = false → F.spec = none →
      over σ args = some vs → Ev T pr (.fn f vs [] v σ0) → back σ0 v = some v' → Ev T pr (.ops l (e.putO i.dst v') (after σ args v') e' σ') → Ev T pr (.ops (i :: l) e σ e' σ')
  | opsThr {i : AI} {f : Nat} {args : List V} {l : List AI} {e e' : Env} {σ σ1 σ' : St} {F : AF} {v : V} : wantedB e i = some true → calleeOf e i.op = some (f, args) → T f = some F → F.thr = true → F.spec = none →
      Ev T pr (.fn f args σ v σ1) → Ev T pr (.ops l (e.putO i.dst v) σ1 e' σ') → Ev T pr (.ops (i :: l) e σ e' σ')
  | opsSpec {i : AI} {f : Nat} {args : List V} {l : List AI} {e e' : Env} {σ σ1 σ' : St} {F : AF} {s : List V → St → Option (V × St)} {v : V} : wantedB e i = some true → calleeOf e i.op = some (f, args) → T f = some F → F.thr = true → F.spec = some s →
      s args σ = some (v, σ1) → Ev T pr (.ops l (e.putO i.dst v) σ1 e' σ') → Ev T pr (.ops (i :: l) e σ e' σ')
  | fn {f : Nat} {args : List V} {σ σ' : St} {e' : Env} {F : AF} {v : V} : T f = some F → F.spec = none → args.length = F.pars → Ev T pr (.code [.c F.body] (parEnv 0 args) σ e' σ') → resV e' σ' F.res = some v →
      okRes v = true → within σ.length [] v.refs = true → (∀ i ob, i < σ.length → σ'[i]? = some ob → σ[i]? = some ob ∨ within σ.length [] ob.refs = true) → Ev T pr (.fn f args σ v (σ'.take σ.length))
  | fnL {f : Nat} {args : List V} {σ σ' : St} {e' : Env} {F : AF} {v : V} {js : List Nat} : T f = some F → F.spec = none → args.length = F.pars → Ev T pr (.code [.c F.body] (parEnv 0 args) σ e' σ') → resV e' σ' F.res = some v →
      leaveSome σ.length js v σ' = true → Ev T pr (.fn f args σ (v.ren (ren σ.length js)) ((σ'.take σ.length ++ js.filterMap (σ'[·]?)).map (Ob.ren (ren σ.length js))))
  | cNil {e : Env} {σ : St} : Ev T pr (.code [] e σ e σ)
  | cSkip {k : List It} {e e' : Env} {σ σ' : St} : Ev T pr (.code k e σ e' σ') → Ev T pr (.code (.c .skip :: k) e σ e' σ')
  | cReg {kill : List Nat} {ops : List AI} {k : List It} {e e1 e' : Env} {σ σ1 σ' : St} : Ev T pr (.ops ops e σ e1 σ1) → Ev T pr (.code k (e1.del kill) σ1 e' σ') → Ev T pr (.code (.c (.reg kill ops) :: k) e σ e' σ')
  | cDrw {kill : List Nat} {deps : List (List Nat)} {ops : List AI} {k : List It} {e e1 e' : Env} {σ σ1 σ' : St} (E2 : Nat → Env) : (∀ t, Ev T pr (.ops (pickAI ops (lin deps t)) e σ (E2 t) σ1)) → (∀ t n, (E2 t).get n = e1.get n) → Ev T pr (.code k (e1.del kill) σ1 e' σ') → Ev T pr (.code (.c (.drw kill deps ops) :: k) e σ e' σ')
  | cSeq {a b : AC} {k : List It} {e e' : Env} {σ σ' : St} : Ev T pr (.code (.c a :: .c b :: k) e σ e' σ') → Ev T pr (.code (.c (.seq a b) :: k) e σ e' σ')
  | cCond {c : S} {kill : List Nat} {x y : AC} {k : List It} {e e' : Env} {σ σ' : St} {z : Bool} : src e c = .bool z → Ev T pr (.code (.c (if z then x else y) :: k) (e.del kill) σ e' σ') → Ev T pr (.code (.c (.cond c kill x y) :: k) e σ e' σ')
  | cBlk {id : Nat} {c : AC} {k : List It} {e e' : Env} {σ σ' : St} : Ev T pr (.code (.c c :: .b id :: k) e σ e' σ') → Ev T pr (.code (.c (.blk id c) :: k) e σ e' σ')
  | cEnd {id : Nat} {k : List It} {e e' : Env} {σ σ' : St} : Ev T pr (.code k e σ e' σ') → Ev T pr (.code (.b id :: k) e σ e' σ')
  | cLoop {keep : List Nat} {c : AC} {k : List It} {e e' : Env} {σ σ' : St} : Ev T pr (.code (.l keep c :: k) e σ e' σ') → Ev T pr (.code (.c (.loop keep c) :: k) e σ e' σ')
  | cAgain {keep : List Nat} {c : AC} {k : List It} {e e' : Env} {σ σ' : St} : Ev T pr (.code (.c c :: .l keep c :: k) (e.keep keep) σ e' σ') → Ev T pr (.code (.l keep c :: k) e σ e' σ')
  | cExit {id : Nat} {k k' : List It} {e e' : Env} {σ σ' : St} : exitTo id k = some k' → Ev T pr (.code k' e σ e' σ') → Ev T pr (.code (.c (.exit id) :: k) e σ e' σ')
  | cRet {k : List It} {e : Env} {σ : St} : Ev T pr (.code (.c .ret :: k) e σ e σ)
end Go.Proofs.YticpkkjnajmpoaaGreatDoor.KM
