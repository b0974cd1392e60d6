/- decodeBody's deferred closure recovers; wrong panics. -/
import Derived.Test.YtikkmcchhddfoaaGreatDoorDf
import Derived.Recover
import Derived.WalkLawsBesides
import Derived.Laws.Pointers
set_option linter.all false
namespace Go.Proofs.YtikkmcchhddfoaaGreatDoor.KM
open Go Go.RowKit
section
variable {P : Program} {G : List (Nat × List V)} {T : Nat → Option AF} {pr : Nat → Option (List V → Option V)}
/-- a region of the plain machine, as the logic has it -/
theorem reg_wp (hT : ∀ f F, T f = some F → F.spec = none → okF P G f F = true) (hS : ∀ f F s, T f = some F → F.spec = some s → ThrOk P G f s) (hpr : ∀ f s, pr f = some s → PrimOk P G f s)
    {n N id : Nat} {kill : List Nat} {ais : List AI} {ops : Array Oper} {D : List Deferred} {e e' : Env} {σ σ' : St} {a : Act} {w : World} {γ : Gh} {Q : Exit → Act → World → Prop} (hok : okC P G n (.reg kill ais) (.region id ops false) = true) (hE : Ev T pr (.ops ais e σ e' σ')) (ha : a.tmps.size = n) (hd : a.defers = D) (hr : RepE γ w e a.tmps) (hI : Inv G N γ σ w)
    (hQ : ∀ a' w', Leaves G N n D γ σ w e' σ' a' w' → Q .normal a' w') : wpOps P ops Q (List.range ops.size) a w := by
  obtain ⟨id', ops', he, hops⟩ := okC_reg hok
  cases he
  refine sound hT hS hpr hE n D ops (List.range ops.size) a w γ N Q ?_ ha hd hr hI hQ
  have := ML_range ais ops.toList 0 hops (by simp)
  rw [List.range_eq_range']
  simpa using this
/-- what a walk over one region says of its operations -/
theorem w_ops {kill : List Nat} {ais : List AI} {e : Env} {σ : St} {Q : Env → St → Prop} (h : W T pr [.c (.reg kill ais)] e σ Q) : ∃ e1 σ1, Ev T pr (.ops ais e σ e1 σ1) ∧ Q (e1.del kill) σ1 := by
  obtain ⟨e', σ', hE, q⟩ := h
  cases hE with
  | cReg g1 g2 =>
    cases g2
    exact ⟨_, _, g1, q⟩
end
theorem wrong_pan : PanOk Tryz.prog 121 := by
  refine ⟨⟨_, _, Tryz.func121, rfl, by decide⟩, fun w => ?_⟩
  refine calls_of_wp Tryz.func121 rfl ?_
  refine wp_region ?_
  simp [wpOps, go_sem, Tryz.ntmps121]
  exact .inl (.inl ⟨rfl, ⟨_, _, rfl⟩, rfl⟩)
def catC : AC := .reg [0, 1, 4] [o 4 (.build [.int .i64 0, .nils] []), on (.store 2 (.t 0) (.t 4)), on (.store 1 (.t 1) (.k (.bool false)))]
theorem catch_w {σ : St} {n : Int} {u : V} {z : Bool} (h0 : σ[0]? = some (bO n u)) (h1 : σ[1]? = some (okO z)) : W D0.T0 D0.P0 [.c catC] [(0, .ptr 0 0 0), (1, .ptr 1 0 0)] σ fun _ σ' => σ' = (σ.set 0 (bO 0 .nils)).set 1 (okO false) := by
  have h1' : (σ.set 0 (.row [.int .i64 0, .nils] 61 0 0))[1]? = some (.row [.bool z] 4 0 0) := by rw [List.getElem?_set_ne (by omega)]; exact h1
  unfold bO okO at *
  unfold catC
  simp only [go_sem, Nat.reduceEqDiff, reduceIte, Nat.reduceAdd, Nat.reduceMul, Nat.reduceLeDiff, Int.reduceLT, Int.reduceLE, Int.reduceToNat, Int.reduceAdd, Int.reduceNeg, Int.reduceEq, h0, h1']
theorem catch_idle (pa qa : Value) (w : World) : CallsD Tryz.prog 120 #[pa, qa] .returning w fun e u' w' => e = .returned (.tuple #[]) ∧ u' = .returning ∧ w' = w := by
  refine callsD_of_wpS Tryz.func120 rfl fun c₀ cs hu => ?_
  apply wpS_seq
  apply wpS_region
  simp [wpOpsS, go_sem, recoverD, hu, Tryz.ntmps120, Exit.thenS]
  refine wpS_cond (t := false) (by simp [Act.eval, Array.replicate]) ?_
  simp only [Bool.false_eq_true, if_false]
  refine wpS_of_wp (wp_skip ?_)
  cases c₀
  simp_all [bodyPostS, results, Tryz.results120]
theorem catch_pan {N : Nat} {γ : Gh} {σ : St} {w : World} {n : Int} {u : V} {z : Bool} {pa qa : Value} (hI : Inv [] N γ σ w) (h0 : σ[0]? = some (bO n u)) (h1 : σ[1]? = some (okO z)) (hp : RepV γ w (.ptr 0 0 0) pa) (hq : RepV γ w (.ptr 1 0 0) qa) (ty : TypeId) (x : Value) :
    CallsD Tryz.prog 120 #[pa, qa] (.panicking [{ v := .iface ty x, recovered := false }]) w fun e u' w' => e = .returned (.tuple #[]) ∧ u' = .panicking [{ v := .iface ty x, recovered := true }] ∧
      ∃ γ', Inv [] N γ' ((σ.set 0 (bO 0 .nils)).set 1 (okO false)) w' ∧ Ext γ w γ' w' ∧ Below N w w' ∧ ∀ b, b < N → γ'.κ b = γ.κ b := by
  refine callsD_of_wpS Tryz.func120 rfl fun c₀ cs hu => ?_
  apply wpS_seq
  apply wpS_region
  simp [wpOpsS, go_sem, recoverD, hu, Tryz.ntmps120, Exit.thenS]
  refine wpS_cond (t := true) (by simp [Act.eval, Array.replicate]) ?_
  simp only [if_true]
  refine wpS_of_wp (wp_region ?_)
  obtain ⟨e1, σ1, hE, rfl⟩ := w_ops (catch_w h0 h1)
  refine reg_wp (G := []) (id := 1) (n := 5) (N := N) (kill := [0, 1, 4]) (D := []) D0.hT0 D0.hS0 D0.hP0 (by kernel_rfl) hE (by simp) rfl ?_ hI ?_
  · intro m
    match m with
    | 0 => exact hp
    | 1 => exact hq
    | m + 2 =>
      rw [show Env.get [(0, V.ptr 0 0 0), (1, V.ptr 1 0 0)] (m + 2) = .und by simp [Env.get]]
      exact .und
  · rintro a' w' ⟨γ', q1, q2, q3, q4, q5, q6, q7⟩
    simp [bodyPostS, results, Tryz.results120, q7]
    exact ⟨γ', q2, q3, q4, q5⟩
end Go.Proofs.YtikkmcchhddfoaaGreatDoor.KM
