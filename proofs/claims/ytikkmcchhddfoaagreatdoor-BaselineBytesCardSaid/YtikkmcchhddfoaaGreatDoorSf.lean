/- Walks: bytes of baselines: the reference's Encode, whole. -/
import Derived.Test.YtikkmcchhddfoaaGreatDoorSe
set_option linter.all false
namespace Go.Proofs.YtikkmcchhddfoaaGreatDoor.KM
open Go
theorem rencode_fn (z : Bool) (t : Nat) (n : Int) (l : List Ent) (ho : okE l) : Fn TT PT 33 [.agg [.int .i64 n, SL z t (l.map Ent.row)]] (encV n l) := by
  have hv := rvalid_fn z t n l ho
  refine Fn_go T33 rfl ?_
  unfold encV
  cases hb : validB n l
  · rw [hb] at hv
    simp only [go_sem, Nat.reduceEqDiff, reduceIte, Nat.reduceAdd, Nat.reduceMul, Nat.reduceLeDiff, Int.reduceLT, Int.reduceLE, Int.reduceToNat, Int.reduceAdd, Int.reduceNeg, Int.reduceEq]
    refine wx_fn hv (by simp only [go_sem]) ?_
    simp only [go_sem, Nat.reduceEqDiff, reduceIte, Nat.reduceAdd, Nat.reduceMul, Nat.reduceLeDiff, Int.reduceLT, Int.reduceLE, Int.reduceToNat, Int.reduceAdd, Int.reduceNeg, Int.reduceEq]
    exact fr_tup rfl
  · rw [hb] at hv
    obtain ⟨b1, b2, b3, b4, b5⟩ := valid_parts hb
    have hlm : (l.map Ent.row).length = l.length := List.length_map ..
    have htot := bodyI_len (n := n) b3 b1
    have h0 : RB [.row [.int .i64 n, SL z t (l.map Ent.row)] 61 0 0, .row [.int .u8 73, .int .u8 66, .int .u8 76, .int .u8 49] 5 0 0] 1 (.sl 1 0 0 4 1 true) [73, 66, 76, 49] (.row [.int .i64 n, SL z t (l.map Ent.row)] 61 0 0) :=
      ⟨cl_push (cl_row cl_nil (by simp only [go_sem])) (by simp [Ob.refs, refsL, V.refs]), .inr ⟨by simp [bI], 1, 0, rfl, rfl, by omega⟩, rfl⟩
    obtain ⟨w1, s1, p1, p2, p3, p4, p5, p6⟩ := rb_step h0 (by omega) (rest := [.int .i64 n]) rfl (fun z t => rpi_own z t _ n (by simp) (by simp))
    obtain ⟨w2, s2, q1, q2, q3, q4, q5, q6⟩ := rb_step p2 p4 (rest := [.int .i64 l.length]) rfl (fun z t => rpi_own z t _ l.length (by have := varL_len n; simp; omega) (by simp))
    have k0 := p2.old
    have k1 := q2.old
    simp only [go_sem, Nat.reduceEqDiff, reduceIte, Nat.reduceAdd, Nat.reduceMul, Nat.reduceLeDiff, Int.reduceLT, Int.reduceLE, Int.reduceToNat, Int.reduceAdd, Int.reduceNeg, Int.reduceEq]
    refine wx_fn hv (by simp only [go_sem]) ?_
    simp only [go_sem, Nat.reduceEqDiff, reduceIte, Nat.reduceAdd, Nat.reduceMul, Nat.reduceLeDiff, Int.reduceLT, Int.reduceLE, Int.reduceToNat, Int.reduceAdd, Int.reduceNeg, Int.reduceEq]
    refine wx_call p1 ?_
    simp only [go_sem, Nat.reduceEqDiff, reduceIte, Nat.reduceAdd, Nat.reduceMul, Nat.reduceLeDiff, Int.reduceLT, Int.reduceLE, Int.reduceToNat, Int.reduceAdd, Int.reduceNeg, Int.reduceEq, k0, hlm]
    refine wx_call q1 ?_
    simp only [go_sem, Nat.reduceEqDiff, reduceIte, Nat.reduceAdd, Nat.reduceMul, Nat.reduceLeDiff, Int.reduceLT, Int.reduceLE, Int.reduceToNat, Int.reduceAdd, Int.reduceNeg, Int.reduceEq, k1, hlm]
    refine loop_w (α := Nat × St × V × Nat × List Int) (fun a => l.length - a.1) (fun a => [(4, a.2.2.1), (27, SL z t (l.map Ent.row)), (28, .int .i64 l.length), (29, .int .i64 a.1)]) (fun a => a.2.1)
      (fun a => a.1 ≤ l.length ∧ RB a.2.1 a.2.2.2.1 a.2.2.1 a.2.2.2.2 (.row [.int .i64 n, SL z t (l.map Ent.row)] 61 0 0) ∧ 1 ≤ a.2.2.2.1 ∧ a.2.2.2.2 ≠ [] ∧ a.2.2.2.2 ++ ((l.drop a.1).map entBy).flatten = bodyI n l) ?_ (0, s2, w2, s1.length, [73, 66, 76, 49] ++ varL n ++ varL (l.length : Int)) ⟨by simp, q2, q4, by simp, by simp [bodyI, varsL]⟩
    rintro ⟨i, s, w, lo, bs⟩ ⟨hi, hE, hlo, hbs, hd⟩ ih
    simp only at hi hE hlo hbs hd ih
    have hlen := congrArg List.length hd
    simp only [List.length_append] at hlen
    refine w_rep (by delta lp33_2; exact rfl) ?_
    rcases Nat.lt_or_ge i l.length with h | h
    · obtain ⟨x, hx, hdr, hm⟩ := at_some h
      have hx4 := entB_len (b3 x hm)
      rw [hdr, List.map_cons, List.flatten_cons] at hd hlen
      have he : (entBy x).length = (varsL [x.kind, x.seen, x.missed, (x.sites.length : Int)]).length + ((x.sites.map keyBy).flatten).length := by simp [entBy]
      simp only [List.length_append] at hlen
      obtain ⟨n1, n2⟩ := rb_new hE [.int .i64 x.kind, x.sl, .int .i64 x.seen, .int .i64 x.missed] 139 (by simp only [go_sem])
      simp only [go_sem, Nat.reduceEqDiff, reduceIte, Nat.reduceAdd, Nat.reduceMul, Nat.reduceLeDiff, Int.reduceLT, Int.reduceLE, Int.reduceToNat, Int.reduceAdd, Int.reduceNeg, Int.reduceEq, lt_t h, List.getElem?_map, hx]
      refine rnums [x.kind, x.seen, x.missed, (x.sites.length : Int)] (by simp) _ _ _ _ (.row [.int .i64 x.kind, x.sl, .int .i64 x.seen, .int .i64 x.missed] 139 0 0) _ _ _ bs hbs (by omega) _ w lo hlo n1 (get_app0 ..) n2 fun s' w' lo' hlo' hE' hx' => ?_
      simp only [go_sem, Nat.reduceEqDiff, reduceIte, Nat.reduceAdd, Nat.reduceMul, Nat.reduceLeDiff, Int.reduceLT, Int.reduceLE, Int.reduceToNat, Int.reduceAdd, Int.reduceNeg, Int.reduceEq, hx']
      refine esites x (b3 x hm) _ _ _ _ _ _ _ (by simp [hbs]) (by simp only [List.length_append]; omega) s' w' lo' hlo' hE' fun s3 w3 lo3 hlo3 hE3 => ?_
      simp only [go_sem, Nat.reduceEqDiff, reduceIte, Nat.reduceAdd, Nat.reduceMul, Nat.reduceLeDiff, Int.reduceLT, Int.reduceLE, Int.reduceToNat, Int.reduceAdd, Int.reduceNeg, Int.reduceEq, inc64 (show i < 9223372036854775807 by omega)]
      refine W_keep (ih (i + 1, s3, w3, lo3, bs ++ entBy x) (by simp; omega) ⟨by simp; omega, ?_, hlo3, by simp [hbs], by simp only; rw [List.append_assoc]; exact hd⟩) rfl
      simp only [entBy]
      simpa only [List.append_assoc] using hE3
    · obtain rfl : i = l.length := by omega
      rw [List.drop_eq_nil_of_le h] at hd
      have hd : bs = bodyI n l := by simpa using hd
      subst hd
      obtain ⟨hcl, q2, hold⟩ := hE
      have hsum := rsum_fn true 0 (bodyI n l) (by omega)
      have hw := gw_cell q2
      have hlo2 : lo ≤ s.length ∨ s.length < lo := by omega
      obtain ⟨w', s', e1, g1, l1, -, f1⟩ := gw_app (lo := 0) (bytes := 1) (y := .lst 1 (bI (sum4 (sumI (bodyI n l))))) (ys := bI (sum4 (sumI (bodyI n l)))) (gw_lo q2 (Nat.zero_le _)) (Nat.zero_le _) rfl (by omega) (bI_len _) (bI_len _) (by rw [bI_n, bI_n]; simp [sum4]; omega)
      rw [← bI_app] at g1
      simp only [go_sem, Nat.reduceEqDiff, reduceIte, Nat.reduceAdd, Nat.reduceMul, Nat.reduceLeDiff, Int.reduceLT, Int.reduceLE, Int.reduceToNat, Int.reduceAdd, Int.reduceNeg, Int.reduceEq, lt_f h]
      refine wx_fo (.cons (ov_cell (gw_oc q2 (by omega) (bI_len _) (bI_row _)) hw) .nil) hsum (by rfl) ?_
      simp only [sum4, bI, List.map_cons, List.map_nil] at e1
      simp only [go_sem, Nat.reduceEqDiff, reduceIte, Nat.reduceAdd, Nat.reduceMul, Nat.reduceLeDiff, Int.reduceLT, Int.reduceLE, Int.reduceToNat, Int.reduceAdd, Int.reduceNeg, Int.reduceEq]
      rw [e1]
      simp only [go_sem, Nat.reduceEqDiff, reduceIte, Nat.reduceAdd, Nat.reduceMul, Nat.reduceLeDiff, Int.reduceLT, Int.reduceLE, Int.reduceToNat, Int.reduceAdd, Int.reduceNeg, Int.reduceEq]
      exact fr_tup_gl (w := .int .i64 0) g1 (by omega) (bI_len _) (bI_row _) rfl
end Go.Proofs.YtikkmcchhddfoaaGreatDoor.KM
