/- Plain: the tokens of an expression's text are parsed as that expression. -/
import Derived.Test.YtlehfgdhebapeaaDoorLa
set_option linter.all false
namespace Go.Proofs.YtlehfgdhebapeaaDoor.KM
open Go
abbrev Kt := Int × List UInt8
def Tk.kt (t : Tk) : Kt := (t.kind, t.text)
def putK (o : Int × List Kt) (level : Int) : List Kt := if lvE o.1 < level then (4, [40]) :: (o.2 ++ [(4, [41])]) else o.2
def combK (op n : Int) (nm : List UInt8) (ts : List (Int × List Kt)) : List Kt :=
  if op = 1 then [(2, itoaE n)] else if op = 2 then [(1, nm)] else
  match ts with
  | [a] => if op = 3 then (1, nm) :: (4, [91]) :: (a.2 ++ [(4, [93])]) else (4, sgE op) :: putK a 6
  | [a, b] => putK a (leftE op) ++ (4, sgE op) :: putK b (lvE op + 1)
  | _ => []
mutual
def Xp.toks : Xp → List Kt
  | ⟨op, n, nm, _, _, l⟩ => combK op n nm (Xp.tokss l)
def Xp.tokss : List Xp → List (Int × List Kt)
  | [] => []
  | x :: l => (x.op, x.toks) :: Xp.tokss l
end
/-- what a shaped expression has -/
inductive ShE : Xp → Prop
  | num {n : Int} {z : Bool} {t : Nat} : 0 ≤ n ∧ n ≤ 9223372036854775807 → ShE ⟨1, n, [], z, t, []⟩
  | name {nm : List UInt8} {z : Bool} {t : Nat} : isNameE nm = true → ShE ⟨2, 0, nm, z, t, []⟩
  | idx {nm : List UInt8} {z : Bool} {t : Nat} {a : Xp} : isNameE nm = true → ShE a → ShE ⟨3, 0, nm, z, t, [a]⟩
  | un {op : Int} {z : Bool} {t : Nat} {a : Xp} : op = 4 ∨ op = 5 → ShE a → ShE ⟨op, 0, [], z, t, [a]⟩
  | bin {op : Int} {z : Bool} {t : Nat} {a b : Xp} : 6 ≤ op ∧ op ≤ 18 → ShE a → ShE b → ShE ⟨op, 0, [], z, t, [a, b]⟩
theorem sgl_runs : ((List.range 18).all fun i => decide ((sgE ((i : Int) + 1)).length ≤ 2 ∧ 1 ≤ lvE ((i : Int) + 1) ∧ lvE ((i : Int) + 1) ≤ 7)) = true := by decide
theorem opn_nat {op : Int} (h : 1 ≤ op ∧ op ≤ 18) : ∃ i : Nat, i < 18 ∧ op = (i : Int) + 1 := ⟨(op - 1).toNat, by omega, by omega⟩
theorem sgl_len {op : Int} (h : 1 ≤ op ∧ op ≤ 18) : (sgE op).length ≤ 2 ∧ 1 ≤ lvE op ∧ lvE op ≤ 7 := by
  obtain ⟨i, hi, rfl⟩ := opn_nat h
  exact of_decide_eq_true (List.all_eq_true.1 sgl_runs i (List.mem_range.2 hi))
theorem she_cn {x : Xp} (h : ShE x) : Cn x := by
  induction h with
  | num h => exact .num (by omega)
  | name _ => exact .name
  | idx _ _ ih => exact .idx ih
  | un h _ ih => exact .un h ih
  | bin h _ _ ih1 ih2 => exact .bin h ih1 ih2
end Go.Proofs.YtlehfgdhebapeaaDoor.KM
