/- interleavemade.Expr makes a shaped expression of depth 6. -/
import Derived.Test.YtliiehfjcplieaaDoorMe
namespace Go.Proofs.YtliiehfjcplieaaDoor
open Go.RowKit Go.Sort

set_option maxHeartbeats 1000000 in
theorem madeExpr_at (w : World) (A : Option Addr) (n cap : Nat) (hn : n ≤ 9223372036854775807) (hA : BytesAt w w.heap.size A n) :
    Calls Tryd.prog 8 #[.slice A n cap] w fun e w' =>
      ∃ x v, e = .returned v ∧ ExIn w' 0 w'.heap.size 6 x v ∧ shB 6 x = true ∧ Below w.heap.size w w' := by
  go_enter Tryd.func8, Tryd.ntmps8
  go_wp2_with fail
  have R0 : Res ((w.alloc (.cells #[.int .i64 0, .int .i64 0, .string ⟨#[]⟩, .slice none 0 0] 25)).alloc (.cells #[.slice A n cap, .int .i64 0] 56)) w.heap.size := heap_new1 _ _ _
  have T0 : TapeAt ((w.alloc (.cells #[.int .i64 0, .int .i64 0, .string ⟨#[]⟩, .slice none 0 0] 25)).alloc (.cells #[.slice A n cap, .int .i64 0] 56)) (w.heap.size + 1) A n cap 0 := heap_new2 _ _ _
  have D0 : Ch (fun _ => False) w ((w.alloc (.cells #[.int .i64 0, .int .i64 0, .string ⟨#[]⟩, .slice none 0 0] 25)).alloc (.cells #[.slice A n cap, .int .i64 0] 56)) := ((Ch.refl _ _).alloc _).alloc _
  have z0 : ((w.alloc (.cells #[.int .i64 0, .int .i64 0, .string ⟨#[]⟩, .slice none 0 0] 25)).alloc (.cells #[.slice A n cap, .int .i64 0] 56)).heap.size = w.heap.size + 1 + 1 := by simp
  generalize ((w.alloc (.cells #[.int .i64 0, .int .i64 0, .string ⟨#[]⟩, .slice none 0 0] 25)).alloc (.cells #[.slice A n cap, .int .i64 0] 56)) = w0 at R0 T0 D0 z0 ⊢
  have P0 : Tp w0 w.heap.size (w.heap.size + 1) A n cap := ⟨by omega, hn, hA.keep fun p hp => D0.cell hp (fun h => h), 0, by omega, T0⟩
  have P1 := P0.alloc (.cells #[.pointer (some ⟨w.heap.size + 1, 0, none⟩), .int .i64 0, .int .i64 0] 58)
  have L1 : Ls (w0.alloc (.cells #[.pointer (some ⟨w.heap.size + 1, 0, none⟩), .int .i64 0, .int .i64 0] 58)) (w.heap.size + 1 + 1) (w.heap.size + 1) 0 0 := by
    have h := heap_alloc_new w0 (.cells #[.pointer (some ⟨w.heap.size + 1, 0, none⟩), .int .i64 0, .int .i64 0] 58)
    rw [z0] at h
    exact h
  have R1 : Res (w0.alloc (.cells #[.pointer (some ⟨w.heap.size + 1, 0, none⟩), .int .i64 0, .int .i64 0] 58)) w.heap.size := (Below.heap_alloc _ _ _ R0.lt).trans R0
  have D1 := D0.alloc (.cells #[.pointer (some ⟨w.heap.size + 1, 0, none⟩), .int .i64 0, .int .i64 0] 58)
  have z1 : (w0.alloc (.cells #[.pointer (some ⟨w.heap.size + 1, 0, none⟩), .int .i64 0, .int .i64 0] 58)).heap.size = w.heap.size + 3 := by simp [z0]
  generalize w0.alloc (.cells #[.pointer (some ⟨w.heap.size + 1, 0, none⟩), .int .i64 0, .int .i64 0] 58) = w1 at P1 L1 R1 D1 z1 ⊢
  refine (madeExpr_all 5 (by omega) w1 w.heap.size _ (w.heap.size + 1) A n cap 0 0 P1 L1 (by omega)).mono ?_
  rintro e w2 ⟨x, v, rfl, hx, hs, hT, hc⟩
  obtain ⟨A', c, rfl, _⟩ := id hx
  have R2 : Res w2 w.heap.size := hc.at R1 (by show ¬ w.heap.size = w.heap.size + 1; omega)
  have D2 : Below w.heap.size w w2 := ((D1.mono (S' := (· = w.heap.size + 1)) (fun _ h => h.elim)).trans hc).below (Nat.le_refl _) (fun k hk => by omega)
  have hx' := ExIn.keep (w' := put4 w2 w.heap.size (.int .i64 x.op) (.int .i64 x.n) (.string x.name) (.slice A' x.l.length c)) (L' := 0) (B' := w2.heap.size) (Nat.zero_le _) (Nat.le_refl _) (fun p h1 h2 => (put4_ch _ _ _ _ _ _).cell h2 (by show ¬ p.block = w.heap.size; omega)) hx
  obtain ⟨a0, a1, a2, a3⟩ := R2.cells
  obtain ⟨f0, f1, f2, f3⟩ := R2.free
  go_wp2_with fail
  refine bodyPost_ret (put4_ret R2 _ _ _ _ rfl rfl) rfl ⟨x, _, rfl, ?_, hs, ?_⟩
  · exact ExIn.keep (Nat.le_refl _) (put4_ch w2 w.heap.size (.int .i64 x.op) (.int .i64 x.n) (.string x.name) (.slice A' x.l.length c)).size (fun _ _ _ => rfl) hx'
  · exact ((Ch.of_below (S := (· = w.heap.size)) D2).trans (put4_ch _ _ _ _ _ _)).below (Nat.le_refl _) (fun k hk => by omega)
end Go.Proofs.YtliiehfjcplieaaDoor
