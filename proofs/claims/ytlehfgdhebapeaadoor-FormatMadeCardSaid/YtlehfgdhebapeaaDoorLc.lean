/- Plain: the tokens of a program's text are parsed as that program, apart from lines. -/
import Derived.Test.YtlehfgdhebapeaaDoorLa
set_option linter.all false
namespace Go.Proofs.YtlehfgdhebapeaaDoor.KM
open Go
/-! what a shaped program has -/
def blankX (x : Xp) : Prop := x.op = 0 ∧ x.n = 0 ∧ x.nm = [] ∧ x.l = []
def namelessE (op : Int) : Bool := op == 2 || (op == 3 || (op == 7 || op == 8))
def valuedE (op : Int) : Bool := op == 1 || (op == 2 || (op == 3 || op == 14))
inductive ShS : Sp → Prop
  | mk {s : Sp} : 1 ≤ s.op ∧ s.op ≤ 15 → (namelessE s.op = true → s.nm = []) → (namelessE s.op = false → isNameE s.nm = true) → (s.op = 15 → isNameE s.arg = true) → (s.op ≠ 15 → s.arg = []) →
      s.idx.length ≤ 1 → (s.op ≠ 1 → s.idx = []) → (∀ x ∈ s.idx, ShE x) → (valuedE s.op = true → ShE s.ex) → (valuedE s.op = false → blankX s.ex) →
      (bodyE s.op = false → s.body = []) → (s.op ≠ 2 → s.els = []) → (∀ x ∈ s.body, ShS x) → (∀ x ∈ s.els, ShS x) → ShS s
structure ShD (d : Dp) : Prop where
  kind : 1 ≤ d.kind ∧ d.kind ≤ 6
  nm : isNameE d.nm = true
  size : 0 ≤ d.size ∧ d.size ≤ 9223372036854775807 ∧ (d.kind ≠ 1 → d.size = 0)
  init : -9223372036854775808 < d.init ∧ d.init ≤ 9223372036854775807 ∧ (d.kind ≠ 1 → d.kind ≠ 2 → d.init = 0)
  on : (d.kind = 5 → isNameE d.on = true) ∧ (d.kind ≠ 5 → d.on = [])
structure ShG (p : Gp) : Prop where
  decls : ∀ d ∈ p.decls, ShD d
  nms : ∀ t ∈ p.thrs, isNameE t.nm = true
  locs : ∀ t ∈ p.thrs, ∀ s ∈ t.locals, isNameE s = true
  thrs : ∀ t ∈ p.thrs, ∀ s ∈ t.body, ShS s
  some : p.thrs ≠ []
theorem shs_cn {s : Sp} (h : ShS s) : CnS s := by
  induction h with
  | mk h1 h2 h3 h4 h5 h6 h7 h8 h9 h10 h11 h12 h13 h14 ih1 ih2 =>
    refine .mk h1 h6 h7 (fun x hx => she_cn (h8 x hx)) (fun hv => she_cn (h9 ?_)) h11 h12 ih1 ih2
    rcases hv with h | h | h | h <;> rw [h] <;> rfl
theorem shg_cn {p : Gp} (h : ShG p) : CnG p := ⟨fun d hd => let h := h.decls d hd; ⟨h.kind, h.size, by have := h.init; omega, by have := h.init; omega, h.init.2.2⟩, fun t ht s hs => shs_cn (h.thrs t ht s hs)⟩
/-! equal apart from lines -/
mutual
def sameS : Sp → Sp → Bool
  | ⟨op, _, nm, arg, _, _, idx, ex, _, _, body, _, _, els⟩, ⟨op', _, nm', arg', _, _, idx', ex', _, _, body', _, _, els'⟩ => op == op' && (nm == nm' && (arg == arg' && (sameX ex ex' && (sameXs idx idx' && (sameSs body body' && sameSs els els')))))
def sameSs : List Sp → List Sp → Bool
  | [], [] => true
  | x :: l, y :: l' => sameS x y && sameSs l l'
  | [], _ :: _ => false
  | _ :: _, [] => false
end
/-! tokens -/
def idxK (l : List Xp) : List Kt := match l with
  | a :: _ => (4, [91]) :: (a.toks ++ [(4, [93])])
  | [] => []
def headK (s : Sp) : List Kt :=
  if s.op = 1 then (1, s.nm) :: (idxK s.idx ++ (4, [61]) :: s.ex.toks)
  else if s.op = 2 ∨ s.op = 3 then (3, wordE s.op) :: s.ex.toks
  else if s.op = 7 ∨ s.op = 8 then [(3, wordE s.op)]
  else if s.op = 14 then (3, wordE s.op) :: (1, s.nm) :: s.ex.toks
  else if s.op = 15 then [(3, wordE s.op), (1, s.nm), (1, s.arg)]
  else [(3, wordE s.op), (1, s.nm)]
def elseW : List UInt8 := [101, 108, 115, 101]
mutual
def Sp.toks : Sp → List Kt
  | ⟨op, line, nm, arg, iz, it, idx, ex, bz, bt, body, ez, et, els⟩ =>
    headK ⟨op, line, nm, arg, iz, it, idx, ex, bz, bt, body, ez, et, els⟩ ++
      if bodyE op then (4, [123]) :: (Sp.tokss body ++ (4, [125]) :: (if els.isEmpty then [] else (3, elseW) :: (4, [123]) :: (Sp.tokss els ++ [(4, [125])]))) else [(4, [59])]
def Sp.tokss : List Sp → List Kt
  | [] => []
  | x :: l => x.toks ++ Sp.tokss l
end
end Go.Proofs.YtlehfgdhebapeaaDoor.KM
