/- The law FormatExpr: format.Expr and the reference give the same text, of made expressions and of any shaped one. -/
import Derived.Test.YtliiehfjcplieaaDoorBr
import Derived.Test.YtliiehfjcplieaaDoorMf
import Derived.Test.YtliiehfjcplieaaDoorRx
namespace Go.Proofs.YtliiehfjcplieaaDoor
open Go.RowKit Go.Sort

set_option maxHeartbeats 400000 in
theorem formatExpr_long (w : World) (A : Option Addr) (n cap : Nat) (v : Value) (x : Ex) (d : Nat) (hx : ExAt w w.heap.size d x v) (hn : n ≤ 9223372036854775807) (h : 300 < n) :
    Calls Tryd.prog 3 #[.slice A n cap, v] w fun e w' => e = .returned (.bool true) ∧ Below w.heap.size w w' := by
  cases d with
  | zero => exact hx.elim
  | succ d =>
  obtain ⟨A', c, rfl, _⟩ := id hx
  go_enter Tryd.func3, Tryd.ntmps3
  go_wp2_with fail
  go_ret
  exact ⟨rfl, (Below.refl _ _).alloc (Nat.le_refl _) _⟩

set_option maxHeartbeats 2000000 in
set_option maxRecDepth 100000 in
theorem formatExpr_short (w : World) (A : Option Addr) (n cap : Nat) (v : Value) (x : Ex) (d : Nat) (hx : ExAt w w.heap.size d x v) (hn : n ≤ 300) (hA : BytesAt w w.heap.size A n)
    (hE : Env w w.heap.size) (hl : cnt d x → (txt d x).length ≤ 140737488355328) :
    Calls Tryd.prog 3 #[.slice A n cap, v] w fun e w' => e = .returned (.bool true) ∧ Below w.heap.size w w' := by
  cases d with
  | zero => exact hx.elim
  | succ d =>
  obtain ⟨A', c, rfl, _⟩ := id hx
  have hn' : ¬ 300 < n := by omega
  go_enter Tryd.func3, Tryd.ntmps3
  go_wp2_with fail
  have hA' : BytesAt (w.alloc (.cells #[.int .i64 x.op, .int .i64 x.n, .string x.name, .slice A' x.l.length c] 25)) (w.alloc (.cells #[.int .i64 x.op, .int .i64 x.n, .string x.name, .slice A' x.l.length c] 25)).heap.size A n := by
    intro i hi
    obtain ⟨b, off, c', h1, h2, h3, h4, h5⟩ := hA i hi
    exact ⟨b, off, c', h1, by simp; omega, h3, h4, (World.cell?_alloc_lt w _ _ h2).trans h5⟩
  refine (madeExpr_at _ A n cap (by omega) hA').mono ?_
  rintro e w1 ⟨y, u, rfl, hy, hs, hb⟩
  obtain ⟨hz1, B1⟩ := box_after hb
  have g1 : Below w.heap.size w w1 := below_box hb
  obtain ⟨A2, c2, hu, _⟩ := id hy
  subst hu
  go_wp2_with fail
  have hsz : (txt 6 y).length ≤ 140737488355328 := by have := sh_short hs hy.nums; omega
  have hcn := sh_cnt hs
  have W2 : ∃ w2, w2 = w1.alloc (.cells #[.int .i64 y.op, .int .i64 y.n, .string y.name, .slice A2 y.l.length c2] 25) := ⟨_, rfl⟩
  obtain ⟨w2, hw2⟩ := W2
  have b2 : Below w1.heap.size w1 w2 := by rw [hw2]; exact (Below.refl _ _).alloc (Nat.le_refl _) _
  have B2 : Box w2 w1.heap.size y A2 c2 := by rw [hw2]; exact heap_alloc_new w1 _
  rw [← hw2]
  have B1' : Box w2 w.heap.size x A' c := (b2.block _ hz1).trans B1
  have g2 : Below w.heap.size w w2 := gcall g1 (Nat.le_refl _) b2
  have hy2 : ExAt w2 w2.heap.size 6 y _ := (hy.below b2).more b2.size
  have hx2 : ExAt w2 w2.heap.size (d + 1) x _ := (ExAt.below hx g2).more g2.size
  have hE2 : Env w2 w2.heap.size := (hE.below g2).more g2.size
  obtain ⟨p0, p1, p2, p3⟩ := B1'.cells
  obtain ⟨q0, q1, q2, q3⟩ := B2.cells
  have hp0 := fun dq os => cell_regrown p0 dq os
  have hp1 := fun dq os => cell_regrown p1 dq os
  have hp2 := fun dq os => cell_regrown p2 dq os
  have hp3 := fun dq os => cell_regrown p3 dq os
  have hq0 := fun dq os => cell_regrown q0 dq os
  have hq1 := fun dq os => cell_regrown q1 dq os
  have hq2 := fun dq os => cell_regrown q2 dq os
  have hq3 := fun dq os => cell_regrown q3 dq os
  have F9 : ∀ dq os, Calls Tryd.prog 9 #[_] (grow (redrawn w2 dq) os) _ := fun dq os => formatExpr_at 6 y _ _ ((hy2.below (below_regrown w2 dq os)).more (below_regrown w2 dq os).size) hcn ((hE2.below (below_regrown w2 dq os)).more (below_regrown w2 dq os).size) hsz
  have F10 : ∀ dq os, Calls Tryd.prog 10 #[_] (grow (redrawn w2 dq) os) _ := fun dq os => refExpr_all 6 y _ _ ((hy2.below (below_regrown w2 dq os)).more (below_regrown w2 dq os).size) hcn ((hE2.below (below_regrown w2 dq os)).more (below_regrown w2 dq os).size) hsz
  have F11 : ∀ dq os, Calls Tryd.prog 11 #[_] (grow (redrawn w2 dq) os) _ := fun dq os => shaped_all (d + 1) x _ _ ((hx2.below (below_regrown w2 dq os)).more (below_regrown w2 dq os).size)
  have hww : w2.heap.size = w1.heap.size + 1 := by rw [hw2]; simp
  have G9 := Lib.hid F9
  have G10 := Lib.hid F10
  have G11 := Lib.hid F11
  have HL := Lib.hid hl
  clear F9 F10 F11 hl hcn hsz p0 p1 p2 p3 q0 q1 q2 q3 B1 B1' B2 hww hw2
  cases hsh : shB (d + 1) x
  · rw [hsh] at G11
    refine wp_region_quiet_below (by kernel_rfl) (by kernel_rfl) ?_
    repeat (any_goals (go_big_quiet_step (first | (go_at_call 9; exact Calls.regrown_of (G9.out _ _)) | (go_at_call 10; exact Calls.regrown_of (G10.out _ _)) | (go_at_call 11; exact Calls.regrown_of (G11.out _ _)))))
    refine wpQuiet_nil ?_
    intro _ hw'
    obtain ⟨⟨dq, osq⟩, hw''⟩ := hw'
    subst hw''
    go_wp2_with fail
    go_ret
    exact ⟨rfl, gcall g2 (Nat.le_refl _) (below_regrown w2 dq osq)⟩
  · rw [hsh] at G11
    have hcx := sh_cnt hsh
    have hlx := HL.out hcx
    have F9' : ∀ dq os, Calls Tryd.prog 9 #[_] (grow (redrawn w2 dq) os) _ := fun dq os => formatExpr_at (d + 1) x _ _ ((hx2.below (below_regrown w2 dq os)).more (below_regrown w2 dq os).size) hcx ((hE2.below (below_regrown w2 dq os)).more (below_regrown w2 dq os).size) hlx
    have F10' : ∀ dq os, Calls Tryd.prog 10 #[_] (grow (redrawn w2 dq) os) _ := fun dq os => refExpr_all (d + 1) x _ _ ((hx2.below (below_regrown w2 dq os)).more (below_regrown w2 dq os).size) hcx ((hE2.below (below_regrown w2 dq os)).more (below_regrown w2 dq os).size) hlx
    have G9' := Lib.hid F9'
    have G10' := Lib.hid F10'
    clear F9' F10' hcx hlx
    refine wp_region_quiet_below (by kernel_rfl) (by kernel_rfl) ?_
    repeat (any_goals (go_big_quiet_step (first | (go_at_call 9; first | (with_reducible exact Calls.regrown_of (G9.out _ _)) | (with_reducible exact Calls.regrown_of (G9'.out _ _))) | (go_at_call 10; first | (with_reducible exact Calls.regrown_of (G10.out _ _)) | (with_reducible exact Calls.regrown_of (G10'.out _ _))) | (go_at_call 11; exact Calls.regrown_of (G11.out _ _)))))
    refine wpQuiet_nil ?_
    intro _ hw'
    obtain ⟨⟨dq, osq⟩, hw''⟩ := hw'
    subst hw''
    go_wp2_with fail
    go_ret
    exact ⟨rfl, gcall g2 (Nat.le_refl _) (below_regrown w2 dq osq)⟩
end Go.Proofs.YtliiehfjcplieaaDoor
