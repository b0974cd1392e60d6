/- Plain: tokens, what scanning a text gives, what parsing tokens gives. -/
import Derived.Test.YtlehfgdhebapeaaDoorGa
import Derived.Test.YtlehfgdhebapeaaDoorNj
import Derived.Lib.ParseIntB
set_option linter.all false
namespace Go.Proofs.YtlehfgdhebapeaaDoor.KM
open Go
structure Tk where
  kind : Int
  text : List UInt8
  line : Int
def Tk.row (t : Tk) : List V := [.int .i64 t.kind, .str t.text, .int .i64 t.line]
def Tk.zero : Tk := ⟨0, [], 0⟩
/-! expressions -/
/-- is the next token this keyword or sign -/
def isT (s : List UInt8) : List Tk → Bool
  | t :: _ => (t.kind == 3 || t.kind == 4) && t.text == s
  | [] => false
def opTab : List (List UInt8 × Int × Int) := [([124, 124], 18, 1), ([38, 38], 17, 2), ([61, 61], 11, 3), ([33, 61], 12, 3), ([60], 13, 3), ([60, 61], 14, 3), ([62], 15, 3), ([62, 61], 16, 3), ([43], 6, 4), ([45], 7, 4), ([42], 8, 5), ([47], 9, 5), ([37], 10, 5)]
def opT (s : List UInt8) : Int × Int := (opTab.lookup s).getD (0, 0)
/-- the binary operator of a level that is the next token, or 0 -/
def opAt (lvl : Nat) : List Tk → Int
  | t :: _ => if t.kind = 4 then (if (opT t.text).2 = (lvl : Int) then (opT t.text).1 else 0) else 0
  | [] => 0
def numV (w : List UInt8) : Int :=
  match Lib.parseIntB 64 w with
  | .ok v => v
  | _ => 0
def binX (op : Int) (x y : Xp) : Xp := ⟨op, 0, [], true, 1, [x, y]⟩
def unX (op : Int) (x : Xp) : Xp := ⟨op, 0, [], true, 1, [x]⟩
mutual
def pe : Nat → Nat → List Tk → Option (Xp × List Tk)
  | 0, _, _ => none
  | n + 1, lvl, ts => if 5 < lvl then pu n ts else
    match pe n (lvl + 1) ts with
    | none => none
    | some (x, r) => lp n lvl x r
def lp : Nat → Nat → Xp → List Tk → Option (Xp × List Tk)
  | 0, _, _, _ => none
  | n + 1, lvl, x, ts => if opAt lvl ts = 0 then some (x, ts) else
    match pe n (lvl + 1) ts.tail with
    | none => none
    | some (y, r) => if lvl = 3 then some (binX (opAt lvl ts) x y, r) else lp n lvl (binX (opAt lvl ts) x y) r
def pu : Nat → List Tk → Option (Xp × List Tk)
  | 0, _ => none
  | n + 1, ts => if isT [45] ts then (match pu n ts.tail with
      | none => none
      | some (x, r) => some (unX 4 x, r))
    else if isT [33] ts then (match pu n ts.tail with
      | none => none
      | some (x, r) => some (unX 5 x, r))
    else pp n ts
def pp : Nat → List Tk → Option (Xp × List Tk)
  | 0, _ => none
  | _ + 1, [] => none
  | n + 1, t :: ts => if t.kind = 2 then some (⟨1, numV t.text, [], true, 0, []⟩, ts)
    else if t.kind = 1 then
      (if isT [91] ts then (match pe n 1 ts.tail with
        | none => none
        | some (x, r) => if isT [93] r then some (⟨3, 0, t.text, true, 1, [x]⟩, r.tail) else none)
      else some (⟨2, 0, t.text, true, 0, []⟩, ts))
    else if isT [40] (t :: ts) then (match pe n 1 ts with
      | none => none
      | some (x, r) => if isT [41] r then some (x, r.tail) else none)
    else none
end
/-! statements -/
def wordTab : List (List UInt8 × Int) := [([105, 102], 2), ([119, 104, 105, 108, 101], 3), ([108, 111, 99, 107], 4), ([114, 101, 97, 100], 5), ([119, 114, 105, 116, 101], 6), ([116, 114, 97, 110, 115, 97, 99, 116, 105, 111, 110], 7), ([97, 116, 111, 109, 105, 99], 8), ([119, 97, 105, 116], 9), ([110, 111, 116, 105, 102, 121], 10), ([110, 111, 116, 105, 102, 121, 97, 108, 108], 11), ([115, 112, 97, 119, 110], 12), ([106, 111, 105, 110], 13), ([115, 101, 116], 14), ([103, 101, 116], 15)]
def wordT (s : List UInt8) : Int := (wordTab.lookup s).getD 0
def pName : List Tk → Option (List UInt8 × List Tk)
  | t :: ts => if t.kind = 1 then some (t.text, ts) else none
  | [] => none
/-- a keyword or sign is wanted -/
def pTok (s : List UInt8) (ts : List Tk) : Option (List Tk) := if isT s ts then some ts.tail else none
def zSp (op line : Int) : Sp := ⟨op, line, [], [], true, 0, [], Xp.zero, true, 0, [], true, 0, []⟩
/-- an assignment's index, if there is one -/
def pIdx (n : Nat) (ts : List Tk) : Option (List Xp × List Tk) :=
  if isT [91] ts then
    match pe n 1 ts.tail with
    | none => none
    | some (x, r) => (pTok [93] r).map fun r => ([x], r)
  else some ([], ts)
def pAsg (n : Nat) (line : Int) (ts : List Tk) : Option (Sp × List Tk) :=
  match pName ts with
  | none => none
  | some (nm, ts) =>
    match pIdx n ts with
    | none => none
    | some (ix, ts) =>
      match pTok [61] ts with
      | none => none
      | some ts =>
        match pe n 1 ts with
        | none => none
        | some (x, ts) => (pTok [59] ts).map fun ts => ({ zSp 1 line with nm := nm, it := ix.length, idx := ix, ex := x }, ts)
mutual
def pst : Nat → List Tk → Option (Sp × List Tk)
  | 0, _ => none
  | _ + 1, [] => none
  | n + 1, t :: ts =>
    if t.kind = 1 then pAsg n t.line (t :: ts)
    else if t.kind = 3 then
      (if wordT t.text = 0 then none
      else if wordT t.text = 2 ∨ wordT t.text = 3 then
        (match pe n 1 ts with
        | none => none
        | some (x, ts) =>
          match pbl n ts with
          | none => none
          | some (b, ts) =>
            if wordT t.text = 2 ∧ isT [101, 108, 115, 101] ts = true then
              (match pbl n ts.tail with
              | none => none
              | some (e, ts) => some ({ zSp (wordT t.text) t.line with ex := x, body := b, els := e }, ts))
            else some ({ zSp (wordT t.text) t.line with ex := x, body := b }, ts))
      else if wordT t.text = 7 ∨ wordT t.text = 8 then
        (match pbl n ts with
        | none => none
        | some (b, ts) => some ({ zSp (wordT t.text) t.line with body := b }, ts))
      else
        (match pName ts with
        | none => none
        | some (nm, ts) =>
          if wordT t.text = 4 ∨ wordT t.text = 5 ∨ wordT t.text = 6 then
            (match pbl n ts with
            | none => none
            | some (b, ts) => some ({ zSp (wordT t.text) t.line with nm := nm, body := b }, ts))
          else if wordT t.text = 14 then
            (match pe n 1 ts with
            | none => none
            | some (x, ts) => (pTok [59] ts).map fun ts => ({ zSp (wordT t.text) t.line with nm := nm, ex := x }, ts))
          else if wordT t.text = 15 then
            (match pName ts with
            | none => none
            | some (ar, ts) => (pTok [59] ts).map fun ts => ({ zSp (wordT t.text) t.line with nm := nm, arg := ar }, ts))
          else (pTok [59] ts).map fun ts => ({ zSp (wordT t.text) t.line with nm := nm }, ts)))
    else none
def pbl : Nat → List Tk → Option (List Sp × List Tk)
  | 0, _ => none
  | n + 1, ts => if isT [123] ts then pls n ts.tail else none
def pls : Nat → List Tk → Option (List Sp × List Tk)
  | 0, _ => none
  | n + 1, ts => if isT [125] ts then some ([], ts.tail) else
    match pst n ts with
    | none => none
    | some (s, r) =>
      match pls n r with
      | none => none
      | some (l, r) => some (s :: l, r)
end
/-! declarations, threads, programs -/
/-! the rows' flags say nothing -/
mutual
def sameX : Xp → Xp → Bool
  | ⟨op, n, nm, _, _, l⟩, ⟨op', n', nm', _, _, l'⟩ => op == op' && (n == n' && (nm == nm' && sameXs l l'))
def sameXs : List Xp → List Xp → Bool
  | [], [] => true
  | x :: l, y :: l' => sameX x y && sameXs l l'
  | [], _ :: _ => false
  | _ :: _, [] => false
end
end Go.Proofs.YtlehfgdhebapeaaDoor.KM
/- Plain: the tokens of an expression's text are parsed as that expression. -/
namespace Go.Proofs.YtlehfgdhebapeaaDoor.KM
open Go
abbrev Kt := Int × List UInt8
def Tk.kt (t : Tk) : Kt := (t.kind, t.text)
def putK (o : Int × List Kt) (level : Int) : List Kt := if lvE o.1 < level then (4, [40]) :: (o.2 ++ [(4, [41])]) else o.2
def combK (op n : Int) (nm : List UInt8) (ts : List (Int × List Kt)) : List Kt :=
  if op = 1 then [(2, itoaE n)] else if op = 2 then [(1, nm)] else
  match ts with
  | [a] => if op = 3 then (1, nm) :: (4, [91]) :: (a.2 ++ [(4, [93])]) else (4, sgE op) :: putK a 6
  | [a, b] => putK a (leftE op) ++ (4, sgE op) :: putK b (lvE op + 1)
  | _ => []
mutual
def Xp.toks : Xp → List Kt
  | ⟨op, n, nm, _, _, l⟩ => combK op n nm (Xp.tokss l)
def Xp.tokss : List Xp → List (Int × List Kt)
  | [] => []
  | x :: l => (x.op, x.toks) :: Xp.tokss l
end
/-- what a shaped expression has -/
inductive ShE : Xp → Prop
  | num {n : Int} {z : Bool} {t : Nat} : 0 ≤ n ∧ n ≤ 9223372036854775807 → ShE ⟨1, n, [], z, t, []⟩
  | name {nm : List UInt8} {z : Bool} {t : Nat} : isNameE nm = true → ShE ⟨2, 0, nm, z, t, []⟩
  | idx {nm : List UInt8} {z : Bool} {t : Nat} {a : Xp} : isNameE nm = true → ShE a → ShE ⟨3, 0, nm, z, t, [a]⟩
  | un {op : Int} {z : Bool} {t : Nat} {a : Xp} : op = 4 ∨ op = 5 → ShE a → ShE ⟨op, 0, [], z, t, [a]⟩
  | bin {op : Int} {z : Bool} {t : Nat} {a b : Xp} : 6 ≤ op ∧ op ≤ 18 → ShE a → ShE b → ShE ⟨op, 0, [], z, t, [a, b]⟩
theorem sgl_runs : ((List.range 18).all fun i => decide ((sgE ((i : Int) + 1)).length ≤ 2 ∧ 1 ≤ lvE ((i : Int) + 1) ∧ lvE ((i : Int) + 1) ≤ 7)) = true := by decide
theorem opn_nat {op : Int} (h : 1 ≤ op ∧ op ≤ 18) : ∃ i : Nat, i < 18 ∧ op = (i : Int) + 1 := ⟨(op - 1).toNat, by omega, by omega⟩
theorem sgl_len {op : Int} (h : 1 ≤ op ∧ op ≤ 18) : (sgE op).length ≤ 2 ∧ 1 ≤ lvE op ∧ lvE op ≤ 7 := by
  obtain ⟨i, hi, rfl⟩ := opn_nat h
  exact of_decide_eq_true (List.all_eq_true.1 sgl_runs i (List.mem_range.2 hi))
theorem she_cn {x : Xp} (h : ShE x) : Cn x := by
  induction h with
  | num h => exact .num (by omega)
  | name _ => exact .name
  | idx _ _ ih => exact .idx ih
  | un h _ ih => exact .un h ih
  | bin h _ _ ih1 ih2 => exact .bin h ih1 ih2
end Go.Proofs.YtlehfgdhebapeaaDoor.KM
