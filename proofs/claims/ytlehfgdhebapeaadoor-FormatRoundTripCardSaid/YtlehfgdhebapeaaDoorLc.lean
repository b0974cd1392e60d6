/- Plain: the tokens of a program's text are parsed as that program, apart from lines. -/
import Derived.Test.YtlehfgdhebapeaaDoorLb
set_option linter.all false
namespace Go.Proofs.YtlehfgdhebapeaaDoor.KM
open Go
/-! what a shaped program has -/
/-! equal apart from lines -/
mutual
def sameS : Sp → Sp → Bool
  | ⟨op, _, nm, arg, _, _, idx, ex, _, _, body, _, _, els⟩, ⟨op', _, nm', arg', _, _, idx', ex', _, _, body', _, _, els'⟩ => op == op' && (nm == nm' && (arg == arg' && (sameX ex ex' && (sameXs idx idx' && (sameSs body body' && sameSs els els')))))
def sameSs : List Sp → List Sp → Bool
  | [], [] => true
  | x :: l, y :: l' => sameS x y && sameSs l l'
  | [], _ :: _ => false
  | _ :: _, [] => false
end
/-! tokens -/
def idxK (l : List Xp) : List Kt := match l with
  | a :: _ => (4, [91]) :: (a.toks ++ [(4, [93])])
  | [] => []
def headK (s : Sp) : List Kt :=
  if s.op = 1 then (1, s.nm) :: (idxK s.idx ++ (4, [61]) :: s.ex.toks)
  else if s.op = 2 ∨ s.op = 3 then (3, wordE s.op) :: s.ex.toks
  else if s.op = 7 ∨ s.op = 8 then [(3, wordE s.op)]
  else if s.op = 14 then (3, wordE s.op) :: (1, s.nm) :: s.ex.toks
  else if s.op = 15 then [(3, wordE s.op), (1, s.nm), (1, s.arg)]
  else [(3, wordE s.op), (1, s.nm)]
def elseW : List UInt8 := [101, 108, 115, 101]
mutual
def Sp.toks : Sp → List Kt
  | ⟨op, line, nm, arg, iz, it, idx, ex, bz, bt, body, ez, et, els⟩ =>
    headK ⟨op, line, nm, arg, iz, it, idx, ex, bz, bt, body, ez, et, els⟩ ++
      if bodyE op then (4, [123]) :: (Sp.tokss body ++ (4, [125]) :: (if els.isEmpty then [] else (3, elseW) :: (4, [123]) :: (Sp.tokss els ++ [(4, [125])]))) else [(4, [59])]
def Sp.tokss : List Sp → List Kt
  | [] => []
  | x :: l => x.toks ++ Sp.tokss l
end
theorem rt_expr (hnum : NumRT) {x : Xp} (h : ShE x) {n : Nat} {ts : List Tk} {r : List Kt} (hm : ts.map Tk.kt = x.toks ++ r) (hs : stopK 1 r) (hn : 8 * ts.length + 7 ≤ n + 1) : ∃ y ts', pe n 1 ts = some (y, ts') ∧ ts'.map Tk.kt = r ∧ sameX x y = true := by
  refine (rt_all hnum h 1 (by omega) (by omega)).1 n ts r ?_ hs hn
  have := (sgl_len (she_op h)).2.1
  rw [put_same (by simpa using this)]
  exact hm
end Go.Proofs.YtlehfgdhebapeaaDoor.KM
