/- Walks: the law that no parentheses can be left out. -/
import Derived.Test.YtlehfgdhebapeaaGreatDoorLn
import Derived.Test.YtlehfgdhebapeaaGreatDoorGf
set_option linter.all false
namespace Go.Proofs.YtlehfgdhebapeaaGreatDoor.KM
open Go
theorem awake3_run : ((bodyF (runD TT PT 3000) af14 [] []).bind fun p => back p.2 p.1) = some (.bool true) := by kernel_rfl
theorem awake3_fn : Fn TT PT 14 [] (.bool true) := run_fnD hSt T14 rfl rfl awake3_run
theorem closing_fn {l A B C : List UInt8} (he : l = A ++ 40 :: (B ++ 41 :: C)) (hB : bal B) (hl : l.length ≤ 1000000) : Fn TT PT 17 [.str l, .int .i64 (A.length : Int)] (.int .i64 ((A.length + 1 + B.length : Nat) : Int)) := by
  have hlen : l.length = A.length + 1 + B.length + 1 + C.length := by rw [he]; simp; omega
  refine Fn_go T17 rfl ?_
  simp only [go_sem, Nat.reduceEqDiff, reduceIte, Nat.reduceAdd, Nat.reduceMul, Nat.reduceLeDiff, Int.reduceLT, Int.reduceLE, Int.reduceToNat, Int.reduceAdd, Int.reduceNeg, Int.reduceEq]
  refine loop_w (α := Nat × Nat) (fun a => l.length - a.1) (fun a => [(0, .str l), (5, .int .i64 (a.2 : Int)), (6, .int .i64 (a.1 : Int))]) (fun _ => []) (fun a => (a.1 = A.length ∧ a.2 = 0) ∨ (A.length < a.1 ∧ a.1 ≤ A.length + 1 + B.length ∧ a.2 ≤ a.1 ∧ 1 ≤ a.2 ∧ bd a.2 (B.drop (a.1 - (A.length + 1))) = some 1)) ?_ (A.length, 0) (.inl ⟨rfl, rfl⟩)
  rintro ⟨k, d⟩ hI ih
  simp only at hI ih
  refine w_rep (by delta lp17_0; exact rfl) ?_
  rcases hI with ⟨rfl, rfl⟩ | ⟨h1, h2, h3, h4, h5⟩
  · have x3 : l[A.length]? = some 40 := by rw [he, List.getElem?_append_right (Nat.le_refl _), Nat.sub_self]; rfl
    have lt1 := lt_t (show A.length < l.length by omega)
    have hin := inc64 (show A.length < 9223372036854775807 by omega)
    have e40 : (((40 : UInt8).toNat : Int) == 40) = true := by decide
    have e41 : (((40 : UInt8).toNat : Int) == 41) = false := by decide
    have w1 : IntKind.i64.wrap (((0 : Nat) : Int) + 1) = ((1 : Nat) : Int) := by decide
    simp only [go_sem, Nat.reduceEqDiff, reduceIte, Nat.reduceAdd, Nat.reduceMul, Nat.reduceLeDiff, Int.reduceLT, Int.reduceLE, Int.reduceToNat, Int.reduceAdd, Int.reduceNeg, Int.reduceEq, lt1, nn, x3, e40, e41, w1, hin]
    exact W_keep (ih (A.length + 1, 1) (by simp; omega) (.inr ⟨by simp, by simp, by simp, by simp, by simp only [Nat.sub_self, List.drop_zero]; exact hB 1 (Nat.le_refl _)⟩)) rfl
  · obtain ⟨j, rfl⟩ : ∃ j, k = A.length + 1 + j := ⟨k - (A.length + 1), by omega⟩
    rw [show A.length + 1 + j - (A.length + 1) = j by omega] at h5
    have lt1 := lt_t (show A.length + 1 + j < l.length by omega)
    have hin := inc64 (show A.length + 1 + j < 9223372036854775807 by omega)
    have hind := inc64 (show d < 9223372036854775807 by omega)
    by_cases hj : j < B.length
    · obtain ⟨c, hc⟩ : ∃ c, B[j]? = some c := ⟨_, List.getElem?_eq_getElem hj⟩
      have x3 : l[A.length + 1 + j]? = some c := by
        rw [he, List.getElem?_append_right (by omega), show A.length + 1 + j - A.length = j + 1 by omega, List.getElem?_cons_succ, List.getElem?_append_left hj]
        exact hc
      have hdr : B.drop j = c :: B.drop (j + 1) := by rw [List.drop_eq_getElem_cons hj, (List.getElem?_eq_some_iff.1 hc).2]
      rw [hdr, bd] at h5
      have e40 : ((c.toNat : Int) == 40) = (c == UInt8.ofNat 40) := u8_eq c 40 (by decide)
      have e41 : ((c.toNat : Int) == 41) = (c == UInt8.ofNat 41) := u8_eq c 41 (by decide)
      have hk : A.length + 1 + j + 1 - (A.length + 1) = j + 1 := by omega
      by_cases c40 : c = 40
      · subst c40
        rw [if_pos rfl] at h5
        have b40 : ((40 : UInt8) == UInt8.ofNat 40) = true := rfl
        have b41 : ((40 : UInt8) == UInt8.ofNat 41) = false := rfl
        simp only [go_sem, Nat.reduceEqDiff, reduceIte, Nat.reduceAdd, Nat.reduceMul, Nat.reduceLeDiff, Int.reduceLT, Int.reduceLE, Int.reduceToNat, Int.reduceAdd, Int.reduceNeg, Int.reduceEq, lt1, nn, x3, e40, e41, b40, b41, hin, hind]
        exact W_keep (ih (A.length + 1 + j + 1, d + 1) (by simp; omega) (.inr ⟨by simp; omega, by simp; omega, by simp; omega, by simp, by simp only [hk]; exact h5⟩)) rfl
      · have b40 : (c == UInt8.ofNat 40) = false := by rw [beq_eq_false_iff_ne]; exact c40
        rw [if_neg c40] at h5
        by_cases c41 : c = 41
        · subst c41
          rw [if_pos rfl] at h5
          have hd2 : ¬ d ≤ 1 := fun h => by rw [if_pos h] at h5; cases h5
          rw [if_neg hd2] at h5
          have b41 : ((41 : UInt8) == UInt8.ofNat 41) = true := rfl
          have wd : IntKind.i64.wrap ((d : Int) - 1) = ((d - 1 : Nat) : Int) := by rw [wrap64 (by omega)]; omega
          have z0 : (((d - 1 : Nat) : Int) == 0) = false := by rw [beq_eq_false_iff_ne]; omega
          simp only [go_sem, Nat.reduceEqDiff, reduceIte, Nat.reduceAdd, Nat.reduceMul, Nat.reduceLeDiff, Int.reduceLT, Int.reduceLE, Int.reduceToNat, Int.reduceAdd, Int.reduceNeg, Int.reduceEq, lt1, nn, x3, e40, e41, b40, b41, hin, wd, z0]
          exact W_keep (ih (A.length + 1 + j + 1, d - 1) (by simp; omega) (.inr ⟨by simp; omega, by simp; omega, by simp; omega, by simp; omega, by simp only [hk]; exact h5⟩)) rfl
        · rw [if_neg c41] at h5
          have b41 : (c == UInt8.ofNat 41) = false := by rw [beq_eq_false_iff_ne]; exact c41
          simp only [go_sem, Nat.reduceEqDiff, reduceIte, Nat.reduceAdd, Nat.reduceMul, Nat.reduceLeDiff, Int.reduceLT, Int.reduceLE, Int.reduceToNat, Int.reduceAdd, Int.reduceNeg, Int.reduceEq, lt1, nn, x3, e40, e41, b40, b41, hin]
          exact W_keep (ih (A.length + 1 + j + 1, d) (by simp; omega) (.inr ⟨by simp; omega, by simp; omega, by simp; omega, by simp; omega, by simp only [hk]; exact h5⟩)) rfl
    · obtain rfl : j = B.length := by omega
      rw [List.drop_length, bd] at h5
      injection h5 with h5
      subst h5
      have x3 : l[A.length + 1 + B.length]? = some 41 := by
        rw [he, List.getElem?_append_right (by omega), show A.length + 1 + B.length - A.length = B.length + 1 by omega, List.getElem?_cons_succ, List.getElem?_append_right (Nat.le_refl _), Nat.sub_self]
        rfl
      have e40 : (((41 : UInt8).toNat : Int) == 40) = false := by decide
      have e41 : (((41 : UInt8).toNat : Int) == 41) = true := by decide
      have wd : IntKind.i64.wrap ((1 : Int) - 1) = 0 := by decide
      simp only [go_sem, Nat.reduceEqDiff, reduceIte, Nat.reduceAdd, Nat.reduceMul, Nat.reduceLeDiff, Int.reduceLT, Int.reduceLE, Int.reduceToNat, Int.reduceAdd, Int.reduceNeg, Int.reduceEq, lt1, nn, x3, e40, e41, Int.cast_ofNat_Int, wd, Int.reduceBEq]
      exact fr_eq rfl rfl
def opensE (l : List UInt8) (i : Nat) : List Nat := (List.range i).filter fun j => l[j]? == some 40
def oRow (j : Nat) : List V := [.int .i64 (j : Int)]
theorem lawNeeded_fn (z : Bool) (t : Nat) (l : List UInt8) (w : Nat) (hw : w < 256) (hl : l.length ≤ 9223372036854775807) : Fn TT PT 5 [SL z t (byteRows l), .int .u8 (w : Int)] (.bool true) := by
  obtain ⟨_, hm, x, rfl, hx, hxl⟩ := mexpr_fn z t l hl
  have hf := fexpr_fn (she_cn hx) (by have : EB 5 = 1014 := rfl; omega)
  have hxs := xset x
  have hr := xrow_def x
  have hsame := same_fn hx
  rw [hr] at hm hf hxs hsame
  refine Fn_go T5 rfl ?_
  simp only [go_sem, Nat.reduceEqDiff, reduceIte, Nat.reduceAdd, Nat.reduceMul, Nat.reduceLeDiff, Int.reduceLT, Int.reduceLE, Int.reduceToNat, Int.reduceAdd, Int.reduceNeg, Int.reduceEq]
  refine wx_fn hm (by simp only [go_sem]) ?_
  simp only [go_sem, Nat.reduceEqDiff, reduceIte, Nat.reduceAdd, Nat.reduceMul, Nat.reduceLeDiff, Int.reduceLT, Int.reduceLE, Int.reduceToNat, Int.reduceAdd, Int.reduceNeg, Int.reduceEq]
  refine wx_fn hf (by simp only [go_sem]) ?_
  by_cases h500 : 500 < x.txt.length
  · have f1 : ((500 : Int) < (x.txt.length : Int)) = True := eq_true (by omega)
    simp only [go_sem, Nat.reduceEqDiff, reduceIte, Nat.reduceAdd, Nat.reduceMul, Nat.reduceLeDiff, Int.reduceLT, Int.reduceLE, Int.reduceToNat, Int.reduceAdd, Int.reduceNeg, Int.reduceEq, gt_iff_lt, f1]
    exact fr_eq rfl rfl
  · have f1 : ((500 : Int) < (x.txt.length : Int)) = False := eq_false (by omega)
    simp only [go_sem, Nat.reduceEqDiff, reduceIte, Nat.reduceAdd, Nat.reduceMul, Nat.reduceLeDiff, Int.reduceLT, Int.reduceLE, Int.reduceToNat, Int.reduceAdd, Int.reduceNeg, Int.reduceEq, gt_iff_lt, f1]
    generalize hs : x.txt = s at *
    refine loop_w (α := Nat × V × St) (fun a => s.length - a.1) (fun a => [(1, .int .u8 (w : Int)), (5, .ptr 0 0 0), (6, .str s), (7, a.2.1), (8, .int .i64 (a.1 : Int))]) (fun a => a.2.2) (fun a => a.1 ≤ s.length ∧ a.2.2[0]? = some (.row [.int .i64 x.op, .int .i64 x.n, .str x.nm, SL x.z x.t (x.l.map Xp.row)] 40 0 0) ∧ 1 ≤ a.2.2.length ∧ GW a.2.2 1 3 1 a.2.1 ((opensE s a.1).map oRow)) ?_ (0, .nils, [.row [.int .i64 x.op, .int .i64 x.n, .str x.nm, SL x.z x.t (x.l.map Xp.row)] 40 0 0]) ⟨Nat.zero_le _, rfl, by simp, by simp [opensE]; exact gw_nil⟩
    rintro ⟨i, u, σ⟩ ⟨hi, h0, hσ, hg⟩ ih
    simp only at hi h0 hσ hg ih
    refine w_rep (by delta lp5_0; exact rfl) ?_
    have hrl : ∀ r ∈ (opensE s i).map oRow, r.length = 1 := by
      intro r hr
      obtain ⟨j, -, rfl⟩ := List.mem_map.1 hr
      rfl
    have hcell := gw_cell hg
    have hop : opensE s (i + 1) = opensE s i ++ (if s[i]? == some 40 then [i] else []) := by
      unfold opensE
      rw [List.range_succ, List.filter_append]
      congr 1
      cases h : (s[i]? == some 40) <;> simp [List.filter, h]
    by_cases hc : i < s.length
    · obtain ⟨c, hcc⟩ : ∃ c, s[i]? = some c := ⟨_, List.getElem?_eq_getElem hc⟩
      have lt1 := lt_t hc
      have hin := inc64 (show i < 9223372036854775807 by omega)
      have e40 : ((c.toNat : Int) == 40) = (c == UInt8.ofNat 40) := u8_eq c 40 (by decide)
      rw [hcc] at hop
      by_cases c40 : c = 40
      · subst c40
        have b40 : ((40 : UInt8) == UInt8.ofNat 40) = true := rfl
        have hle : (opensE s i).length ≤ i := by
          have := List.length_filter_le (fun j => s[j]? == some 40) (List.range i)
          simpa [opensE] using this
        obtain ⟨u', σ', ha, hg', hl', -, hk'⟩ := gw_app (bytes := 8) (y := .lst 1 [[.int .i64 (i : Int)]]) (ys := [[.int .i64 (i : Int)]]) hg hσ rfl (by omega) hrl (by simp) (by simp; omega)
        simp only [go_sem, Nat.reduceEqDiff, reduceIte, Nat.reduceAdd, Nat.reduceMul, Nat.reduceLeDiff, Int.reduceLT, Int.reduceLE, Int.reduceToNat, Int.reduceAdd, Int.reduceNeg, Int.reduceEq, lt1, nn, hcc, e40, b40, ha, hin]
        exact W_keep (ih (i + 1, u', σ') (by simp; omega) ⟨hc, by simp only; rw [hk' 0 (by omega)]; exact h0, by simp only; omega, by simp only; rw [hop]; simpa [oRow] using hg'⟩) rfl
      · have b40 : (c == UInt8.ofNat 40) = false := by rw [beq_eq_false_iff_ne]; exact c40
        have hn : (some c == some (40 : UInt8)) = false := by simp [c40]
        rw [hn] at hop
        simp only [go_sem, Nat.reduceEqDiff, reduceIte, Nat.reduceAdd, Nat.reduceMul, Nat.reduceLeDiff, Int.reduceLT, Int.reduceLE, Int.reduceToNat, Int.reduceAdd, Int.reduceNeg, Int.reduceEq, lt1, nn, hcc, e40, b40, hin]
        exact W_keep (ih (i + 1, u, σ) (by simp; omega) ⟨hc, h0, hσ, by simp only; rw [hop]; simpa using hg⟩) rfl
    · obtain rfl : i = s.length := by omega
      have hlt := lt_f (Nat.le_refl s.length)
      rcases hg with ⟨rfl, hnil⟩ | ⟨hne, i', g, rfl, ho, hlo⟩
      · simp only [go_sem, Nat.reduceEqDiff, reduceIte, Nat.reduceAdd, Nat.reduceMul, Nat.reduceLeDiff, Int.reduceLT, Int.reduceLE, Int.reduceToNat, Int.reduceAdd, Int.reduceNeg, Int.reduceEq, hlt, Int.reduceBEq]
        refine wx_fn awake3_fn rfl ?_
        simp only [go_sem, Nat.reduceEqDiff, reduceIte, Nat.reduceAdd, Nat.reduceMul, Nat.reduceLeDiff, Int.reduceLT, Int.reduceLE, Int.reduceToNat, Int.reduceAdd, Int.reduceNeg, Int.reduceEq]
        exact fr_eq rfl rfl
      · have hfl : ((opensE s s.length).map oRow).flatten = (opensE s s.length).map fun (j : Nat) => V.int .i64 (j : Int) := by
          induction opensE s s.length with
          | nil => rfl
          | cons a r ih => simp only [List.map_cons, List.flatten_cons, ih, oRow, List.cons_append, List.nil_append]
        rw [hfl] at ho
        have hne' : opensE s s.length ≠ [] := fun e => hne (by rw [e]; rfl)
        have hall : ∀ j ∈ opensE s s.length, s[j]? = some 40 := fun j hj => by
          have := (List.mem_filter.1 hj).2
          simpa using this
        have hlle : (opensE s s.length).length ≤ s.length := by
          have := List.length_filter_le (fun j => s[j]? == some 40) (List.range s.length)
          simpa [opensE] using this
        rw [List.length_map] at hcell ⊢
        generalize opensE s s.length = O at *
        have hpos : 0 < O.length := List.length_pos_iff.2 hne'
        have hmod : w % O.length < O.length := Nat.mod_lt _ hpos
        obtain ⟨j, hj⟩ : ∃ j, O[w % O.length]? = some j := ⟨_, List.getElem?_eq_getElem hmod⟩
        have hj40 := hall j (List.mem_of_getElem? hj)
        obtain ⟨A, B, C, he, hA, hB, hnd⟩ := needed dig_rt hx (by rw [hs]; exact hj40)
        rw [hs] at he
        subst hA
        have b0 : ((O.length : Int) == 0) = false := by rw [beq_eq_false_iff_ne]; omega
        have bz : ((O.length : Int) = 0) = False := eq_false (by omega)
        have em : ((w : Int).tmod (O.length : Int)) = ((w % O.length : Nat) : Int) := by rw [Int.tmod_eq_emod_of_nonneg (by omega)]; rfl
        have ew : IntKind.i64.wrap (w : Int) = (w : Int) := wrap64 (by omega)
        have ho' : ((O.map fun (j : Nat) => V.int .i64 (j : Int)))[w % O.length]? = some (.int .i64 (A.length : Int)) := by rw [List.getElem?_map, hj]; rfl
        have cI : ((0 : Int) ≤ ((w % O.length : Nat) : Int) ∧ ((w % O.length : Nat) : Int) < (O.length : Int)) = True := eq_true ⟨by omega, by omega⟩
        have hsl : s.length = A.length + 1 + B.length + 1 + C.length := by rw [he]; simp; omega
        have hcl := closing_fn he hB (by omega)
        have k0 : (((A.length + 1 + B.length : Nat) : Int) < 0) = False := eq_false (by omega)
        have w1 : IntKind.i64.wrap ((A.length : Int) + 1) = ((A.length + 1 : Nat) : Int) := inc64 (by omega)
        have w2 : IntKind.i64.wrap (((A.length + 1 + B.length : Nat) : Int) + 1) = ((A.length + 1 + B.length + 1 : Nat) : Int) := inc64 (by omega)
        have g1 : (A.length ≤ s.length) = True := eq_true (by omega)
        have g2 : (A.length + 1 ≤ A.length + 1 + B.length) = True := eq_true (by omega)
        have g3 : (A.length + 1 + B.length ≤ s.length) = True := eq_true (by omega)
        have g4 : (A.length + 1 + B.length + 1 ≤ s.length) = True := eq_true (by omega)
        have t1 : s.take A.length = A := by rw [he, List.take_left]
        have t2 : (s.take (A.length + 1 + B.length)).drop (A.length + 1) = B := by
          rw [show s = (A ++ 40 :: B) ++ 41 :: C by rw [he]; simp, List.take_left' (by simp; omega), show A ++ 40 :: B = (A ++ [40]) ++ B by simp, List.drop_left' (by simp)]
        have t3 : s.drop (A.length + 1 + B.length + 1) = C := by
          rw [show s = (A ++ 40 :: (B ++ [41])) ++ C by rw [he]; simp, List.drop_left' (by simp; omega)]
        have a1 : binS .add A B = some (.str (A ++ B)) := bin_add (by omega) rfl
        have a2 : binS .add (A ++ B) C = some (.str (A ++ (B ++ C))) := bin_add (by simp; omega) (List.append_assoc ..)
        obtain ⟨v, hpe, hE⟩ := pexpr_fn (A ++ (B ++ C))
        have cL : (w % O.length + 1 ≤ (O.map fun (j : Nat) => V.int .i64 (j : Int)).length) = True := eq_true (by rw [List.length_map]; omega)
        have cm : mkOne true (List.take 1 (List.drop (w % O.length) (O.map fun (j : Nat) => V.int .i64 (j : Int)))) = some (.int .i64 (A.length : Int)) := by
          rw [List.drop_eq_getElem_cons (List.getElem?_eq_some_iff.1 ho').1, (List.getElem?_eq_some_iff.1 ho').2]
          rfl
        simp only [go_sem, Nat.reduceEqDiff, reduceIte, Nat.reduceAdd, Nat.reduceMul, Nat.reduceLeDiff, Int.reduceLT, Int.reduceLE, Int.reduceToNat, Int.reduceAdd, Int.reduceNeg, Int.reduceEq, hlt, b0, ew, bz, em, not_false_eq_true, cI, ho, cL, cm]
        refine wx_fn hcl (by simp only [go_sem]) ?_
        simp only [go_sem, Nat.reduceEqDiff, reduceIte, Nat.reduceAdd, Nat.reduceMul, Nat.reduceLeDiff, Int.reduceLT, Int.reduceLE, Int.reduceToNat, Int.reduceAdd, Int.reduceNeg, Int.reduceEq, k0]
        have l1 : (A.length + B.length ≤ 9223372036854775807) = True := eq_true (by omega)
        have l2 : (A.length + B.length + C.length ≤ 9223372036854775807) = True := eq_true (by omega)
        unfold ExR at hE
        refine w_drw (by kernel_rfl) ?_
        simp only [go_sem, Nat.reduceEqDiff, reduceIte, Nat.reduceAdd, Nat.reduceMul, Nat.reduceLeDiff, Int.reduceLT, Int.reduceLE, Int.reduceToNat, Int.reduceAdd, Int.reduceNeg, Int.reduceEq, nn, w1, w2, g1, g2, g3, g4, t1, t2, t3, Nat.zero_le, Nat.le_refl, List.take_length, true_and, and_self, if_true, Option.bind_some, List.length_append, List.append_assoc, l1, l2]
        cases hq : pexprE (A ++ (B ++ C)) with
        | none =>
          rw [hq] at hE
          obtain ⟨e, ln, he0, rfl⟩ := hE
          refine wgx_fn hpe (by simp only [go_sem]) ?_
          have ne : (e != 0) = true := by simp [he0]
          have ln0 : ∀ a : Ob, (σ ++ [a])[σ.length]? = some a := fun a => by simp
          have lu0 : ∀ a b : Ob, (σ ++ [a]).set σ.length b = σ ++ [b] := fun a b => by simp [List.set_append_right]
          simp only [go_sem, Nat.reduceEqDiff, reduceIte, Nat.reduceAdd, Nat.reduceMul, Nat.reduceLeDiff, Int.reduceLT, Int.reduceLE, Int.reduceToNat, Int.reduceAdd, Int.reduceNeg, Int.reduceEq, ln0, lu0]
          refine wgk_ef' (by repeat (first | exact trivial | refine ⟨.inl (by rfl), ?_⟩ | refine ⟨by rfl, ?_⟩ | refine ⟨.inr ⟨by rfl, by rfl⟩, ?_⟩ | refine ⟨.inr ⟨by (first | exact rdI rfl rfl | exact rd1e rfl ⟨_, _, by assumption, by rfl⟩ | exact rd1e rfl ⟨_, _, get_app_some (by assumption), by rfl⟩ | exact rdN (by assumption) rfl (by rfl) | exact rdN (get_app_some (by assumption)) rfl (by rfl)), by (first | exact rdI rfl rfl | exact rd1e rfl ⟨_, _, by assumption, by rfl⟩ | exact rd1e rfl ⟨_, _, get_app_some (by assumption), by rfl⟩ | exact rdN (by assumption) rfl (by rfl) | exact rdN (get_app_some (by assumption)) rfl (by rfl))⟩, ?_⟩)) (by repeat (first | exact trivial | refine ⟨.inl (by rfl), ?_⟩ | refine ⟨by rfl, ?_⟩ | refine ⟨.inr ⟨by rfl, by rfl⟩, ?_⟩ | refine ⟨.inr ⟨by (first | exact rdI rfl rfl | exact rd1e rfl ⟨_, _, by assumption, by rfl⟩ | exact rd1e rfl ⟨_, _, get_app_some (by assumption), by rfl⟩ | exact rdN (by assumption) rfl (by rfl) | exact rdN (get_app_some (by assumption)) rfl (by rfl)), by (first | exact rdI rfl rfl | exact rd1e rfl ⟨_, _, by assumption, by rfl⟩ | exact rd1e rfl ⟨_, _, get_app_some (by assumption), by rfl⟩ | exact rdN (by assumption) rfl (by rfl) | exact rdN (get_app_some (by assumption)) rfl (by rfl))⟩, ?_⟩)) ?_
          simp only [go_sem, Nat.reduceEqDiff, reduceIte, Nat.reduceAdd, Nat.reduceMul, Nat.reduceLeDiff, Int.reduceLT, Int.reduceLE, Int.reduceToNat, Int.reduceAdd, Int.reduceNeg, Int.reduceEq, ne]
          refine wx_fn awake3_fn rfl ?_
          simp only [go_sem, Nat.reduceEqDiff, reduceIte, Nat.reduceAdd, Nat.reduceMul, Nat.reduceLeDiff, Int.reduceLT, Int.reduceLE, Int.reduceToNat, Int.reduceAdd, Int.reduceNeg, Int.reduceEq]
          exact fr_eq rfl rfl
        | some y =>
          rw [hq] at hE
          simp only at hE
          subst hE
          have hys := xset y
          have hyr := xrow_def y
          rw [hyr] at hpe hys
          have hsm := hsame y
          rw [hyr, hnd y hq] at hsm
          refine wgx_fn hpe (by simp only [go_sem]) ?_
          have ne : ((0 : Int) != 0) = false := by decide
          have ln0 : ∀ a : Ob, (σ ++ [a])[σ.length]? = some a := fun a => by simp
          have lu0 : ∀ a b : Ob, (σ ++ [a]).set σ.length b = σ ++ [b] := fun a b => by simp [List.set_append_right]
          have h0' := fun l : St => get_app_some (l := l) h0
          simp only [go_sem, Nat.reduceEqDiff, reduceIte, Nat.reduceAdd, Nat.reduceMul, Nat.reduceLeDiff, Int.reduceLT, Int.reduceLE, Int.reduceToNat, Int.reduceAdd, Int.reduceNeg, Int.reduceEq, ln0, lu0]
          refine wgk_ef' (by repeat (first | exact trivial | refine ⟨.inl (by rfl), ?_⟩ | refine ⟨by rfl, ?_⟩ | refine ⟨.inr ⟨by rfl, by rfl⟩, ?_⟩ | refine ⟨.inr ⟨by (first | exact rdI rfl rfl | exact rd1e rfl ⟨_, _, by assumption, by rfl⟩ | exact rd1e rfl ⟨_, _, get_app_some (by assumption), by rfl⟩ | exact rdN (by assumption) rfl (by rfl) | exact rdN (get_app_some (by assumption)) rfl (by rfl)), by (first | exact rdI rfl rfl | exact rd1e rfl ⟨_, _, by assumption, by rfl⟩ | exact rd1e rfl ⟨_, _, get_app_some (by assumption), by rfl⟩ | exact rdN (by assumption) rfl (by rfl) | exact rdN (get_app_some (by assumption)) rfl (by rfl))⟩, ?_⟩)) (by repeat (first | exact trivial | refine ⟨.inl (by rfl), ?_⟩ | refine ⟨by rfl, ?_⟩ | refine ⟨.inr ⟨by rfl, by rfl⟩, ?_⟩ | refine ⟨.inr ⟨by (first | exact rdI rfl rfl | exact rd1e rfl ⟨_, _, by assumption, by rfl⟩ | exact rd1e rfl ⟨_, _, get_app_some (by assumption), by rfl⟩ | exact rdN (by assumption) rfl (by rfl) | exact rdN (get_app_some (by assumption)) rfl (by rfl)), by (first | exact rdI rfl rfl | exact rd1e rfl ⟨_, _, by assumption, by rfl⟩ | exact rd1e rfl ⟨_, _, get_app_some (by assumption), by rfl⟩ | exact rdN (by assumption) rfl (by rfl) | exact rdN (get_app_some (by assumption)) rfl (by rfl))⟩, ?_⟩)) ?_
          simp only [go_sem, Nat.reduceEqDiff, reduceIte, Nat.reduceAdd, Nat.reduceMul, Nat.reduceLeDiff, Int.reduceLT, Int.reduceLE, Int.reduceToNat, Int.reduceAdd, Int.reduceNeg, Int.reduceEq, ln0, lu0, h0', ne]
          refine wx_fn hsm (by simp only [go_sem]) ?_
          simp only [go_sem, Nat.reduceEqDiff, reduceIte, Nat.reduceAdd, Nat.reduceMul, Nat.reduceLeDiff, Int.reduceLT, Int.reduceLE, Int.reduceToNat, Int.reduceAdd, Int.reduceNeg, Int.reduceEq]
          refine wx_fn awake3_fn rfl ?_
          simp only [go_sem, Nat.reduceEqDiff, reduceIte, Nat.reduceAdd, Nat.reduceMul, Nat.reduceLeDiff, Int.reduceLT, Int.reduceLE, Int.reduceToNat, Int.reduceAdd, Int.reduceNeg, Int.reduceEq]
          exact fr_eq rfl rfl
end Go.Proofs.YtlehfgdhebapeaaGreatDoor.KM
