/- Walks: parse.Expr, SameExpr, the maker of expressions. -/
import Derived.Test.YtlehfgdhebapeaaDoorLl
import Derived.Test.YtlehfgdhebapeaaDoorLj
set_option linter.all false
namespace Go.Proofs.YtlehfgdhebapeaaDoor.KM
open Go
theorem scan_num : ∀ (n : Nat) (ln : Int) (l : List UInt8) (ts : List Tk), scanE n ln l = some ts → ∀ t ∈ ts, t.kind = 2 → Lib.parseIntB 64 t.text = .ok (numV t.text) ∧ t.text.length ≤ l.length
  | n, ln, [], ts, h => by
    have : scanE n ln [] = some [] := by cases n <;> rfl
    rw [this] at h
    cases h
    intro t ht; cases ht
  | 0, ln, c :: r, ts, h => by cases h
  | n + 1, ln, c :: r, ts, h => by
    rw [scanE] at h
    have up : ∀ {l' : List UInt8} {ts' : List Tk}, l'.length ≤ (c :: r).length → (∀ t ∈ ts', t.kind = 2 → Lib.parseIntB 64 t.text = .ok (numV t.text) ∧ t.text.length ≤ l'.length) → ∀ t ∈ ts', t.kind = 2 → Lib.parseIntB 64 t.text = .ok (numV t.text) ∧ t.text.length ≤ (c :: r).length :=
      fun hl h t ht hk => ⟨(h t ht hk).1, Nat.le_trans (h t ht hk).2 hl⟩
    split at h
    · exact up (by simp) (scan_num n _ _ _ h)
    · split at h
      · exact up (by simp) (scan_num n _ _ _ h)
      · split at h
        · exact up (drop_le _ _) (scan_num n _ _ _ h)
        · split at h
          · cases h
          · rename_i k w hf
            simp only [Option.map_eq_some_iff] at h
            obtain ⟨l, hl, rfl⟩ := h
            intro t ht
            rcases List.mem_cons.1 ht with rfl | ht
            · intro hk2
              simp only at hk2
              subst hk2
              obtain ⟨-, q, hq⟩ := first_some hf
              have hwl : w.length ≤ (c :: r).length := by rw [hq]; simp
              refine ⟨?_, hwl⟩
              rw [first_def] at hf
              simp only
              split at hf
              · split at hf
                · cases hf
                · simp only [Option.some.injEq, Prod.mk.injEq] at hf
                  obtain ⟨hf, -⟩ := hf
                  split at hf <;> omega
              · split at hf
                · rename_i hc
                  split at hf
                  · cases hf
                  · split at hf
                    · rename_i hok
                      cases hf
                      have hd : digs (digsE c r) := fun d hd => by
                        rcases List.mem_cons.1 hd with rfl | hd
                        · exact hc
                        · exact tw_mem hd
                      rw [numOk_val hd] at hok
                      have hv := of_decide_eq_true hok
                      have h1 := numV_val hd hv
                      have h2 := pint hd hv
                      unfold digsE at hv ⊢
                      rw [h1, h2]
                    · cases hf
                · split at hf
                  · cases hf
                  · simp only [Option.some.injEq, Prod.mk.injEq] at hf
                    omega
            · exact up (by rw [List.length_drop]; omega) (scan_num n _ _ _ hl) t ht
theorem scan_oka {s : List UInt8} {L : List Tk} (hs : s.length ≤ 4096) (h : scanE s.length 1 s = some L) : OkA L :=
  ⟨Nat.le_trans (scan_len _ _ _ _ h) hs, fun t ht hk => by
    obtain ⟨h1, h2⟩ := scan_num _ _ _ _ h t ht hk
    exact ⟨h1, Nat.le_trans h2 hs⟩⟩
theorem line_th {s : St} {m : Nat} {z : Bool} {t : Nat} {A : List Tk} {p : Nat} (hs : s[m]? = some (RO z t A p)) (hA : A.length ≤ 1000000) (hp : p ≤ A.length) : ∃ n : Int, ThP TT PT 43 [.ptr m 0 0] s (.int .i64 n) s := by
  suffices h : RT 43 [] s m z t A (fun v p' => (∃ n : Int, v = .int .i64 n) ∧ p' = p) by
    obtain ⟨v, p', h1, -, ⟨n, rfl⟩, rfl⟩ := h
    rw [st_same hs] at h1
    exact ⟨n, h1⟩
  refine rt_go T43 rfl hs fun S hS => ?_
  obtain ⟨-, -, hlen, get, get0, set, set0, n0, n1, n2, u0, u1, u2⟩ := hS
  by_cases h0 : A.length = 0
  · have b0 : ((A.length : Int) == 0) = true := by rw [h0]; rfl
    simp only [go_sem, Nat.reduceEqDiff, reduceIte, Nat.reduceAdd, Nat.reduceMul, Nat.reduceLeDiff, Int.reduceLT, Int.reduceLE, Int.reduceToNat, Int.reduceAdd, Int.reduceNeg, Int.reduceEq, hlen, get, get0, set, set0, n0, n1, n2, u0, u1, u2, List.append_assoc, List.cons_append, List.nil_append, List.length_append, List.length_cons, List.length_nil, Nat.zero_add, toks_n, b0]
    exact rt_end0 rfl ⟨rfl, rfl⟩ hp ⟨⟨_, rfl⟩, rfl⟩
  · have b0 : ((A.length : Int) == 0) = false := by rw [beq_eq_false_iff_ne]; omega
    by_cases h1 : A.length ≤ p
    · have f1 : ((A.length : Int) ≤ (p : Int)) = True := eq_true (by omega)
      have e1 : IntKind.i64.wrap ((A.length : Int) - 1) = ((A.length - 1 : Nat) : Int) := by rw [wrap64 (by omega)]; omega
      obtain ⟨x, hx⟩ : ∃ x, A[A.length - 1]? = some x := ⟨_, List.getElem?_eq_getElem (by omega)⟩
      have hx' := tok_get hx
      simp only [go_sem, Nat.reduceEqDiff, reduceIte, Nat.reduceAdd, Nat.reduceMul, Nat.reduceLeDiff, Int.reduceLT, Int.reduceLE, Int.reduceToNat, Int.reduceAdd, Int.reduceNeg, Int.reduceEq, hlen, get, get0, set, set0, n0, n1, n2, u0, u1, u2, List.append_assoc, List.cons_append, List.nil_append, List.length_append, List.length_cons, List.length_nil, Nat.zero_add, toks_n, b0, ge_iff_le, f1, e1, hx']
      exact rt_end0 rfl ⟨rfl, rfl⟩ hp ⟨⟨_, rfl⟩, rfl⟩
    · have f1 : ((A.length : Int) ≤ (p : Int)) = False := eq_false (by omega)
      obtain ⟨x, hx⟩ : ∃ x, A[p]? = some x := ⟨_, List.getElem?_eq_getElem (by omega)⟩
      have hx' := tok_get hx
      simp only [go_sem, Nat.reduceEqDiff, reduceIte, Nat.reduceAdd, Nat.reduceMul, Nat.reduceLeDiff, Int.reduceLT, Int.reduceLE, Int.reduceToNat, Int.reduceAdd, Int.reduceNeg, Int.reduceEq, hlen, get, get0, set, set0, n0, n1, n2, u0, u1, u2, List.append_assoc, List.cons_append, List.nil_append, List.length_append, List.length_cons, List.length_nil, Nat.zero_add, toks_n, b0, ge_iff_le, f1]
      refine w_drw (by kernel_rfl) ?_
      simp only [go_sem, Nat.reduceEqDiff, reduceIte, Nat.reduceAdd, Nat.reduceMul, Nat.reduceLeDiff, Int.reduceLT, Int.reduceLE, Int.reduceToNat, Int.reduceAdd, Int.reduceNeg, Int.reduceEq, hlen, get, get0, set, set0, n0, n1, n2, u0, u1, u2, List.append_assoc, List.cons_append, List.nil_append, List.length_append, List.length_cons, List.length_nil, Nat.zero_add, toks_n, hx']
      exact rt_end0 rfl ⟨rfl, rfl⟩ hp ⟨⟨_, rfl⟩, rfl⟩
/-- what parse.Expr gives -/
def ExR (s : List UInt8) (v : V) : Prop := match pexprE s with
  | some x => v = .tup [.agg x.row, .int .i64 0, .int .i64 0]
  | none => ∃ e ln : Int, e ≠ 0 ∧ v = .tup [.agg [.int .i64 0, .int .i64 0, .str [], .nils], .int .i64 e, .int .i64 ln]
theorem pexpr_fn (s : List UInt8) : ∃ v, Fn TT PT 17 [.str s] v ∧ ExR s v := by
  obtain ⟨v1, hsc, hR⟩ := scan_fn s
  refine fn_ex T17 rfl ?_
  unfold ScanR at hR
  unfold ExR pexprE
  by_cases hbig : 4096 < s.length
  · rw [if_pos hbig] at hR ⊢
    obtain ⟨e, ln, he, rfl⟩ := hR
    have ne : (e != 0) = true := by simp [he]
    simp only [go_sem, Nat.reduceEqDiff, reduceIte, Nat.reduceAdd, Nat.reduceMul, Nat.reduceLeDiff, Int.reduceLT, Int.reduceLE, Int.reduceToNat, Int.reduceAdd, Int.reduceNeg, Int.reduceEq]
    refine wx_fn hsc (by simp only [go_sem]) ?_
    simp only [go_sem, Nat.reduceEqDiff, reduceIte, Nat.reduceAdd, Nat.reduceMul, Nat.reduceLeDiff, Int.reduceLT, Int.reduceLE, Int.reduceToNat, Int.reduceAdd, Int.reduceNeg, Int.reduceEq, ne]
    exact ⟨.tup [.agg [.int .i64 0, .int .i64 0, .str [], .nils], .int .i64 e, .int .i64 ln], ⟨_, rfl, fr_tup (by rfl)⟩, e, ln, he, rfl⟩
  · rw [if_neg hbig] at hR ⊢
    cases hL : scanE s.length 1 s with
    | none =>
      rw [hL] at hR
      obtain ⟨e, ln, he, rfl⟩ := hR
      have ne : (e != 0) = true := by simp [he]
      simp only [go_sem, Nat.reduceEqDiff, reduceIte, Nat.reduceAdd, Nat.reduceMul, Nat.reduceLeDiff, Int.reduceLT, Int.reduceLE, Int.reduceToNat, Int.reduceAdd, Int.reduceNeg, Int.reduceEq]
      refine wx_fn hsc (by simp only [go_sem]) ?_
      simp only [go_sem, Nat.reduceEqDiff, reduceIte, Nat.reduceAdd, Nat.reduceMul, Nat.reduceLeDiff, Int.reduceLT, Int.reduceLE, Int.reduceToNat, Int.reduceAdd, Int.reduceNeg, Int.reduceEq, ne]
      exact ⟨.tup [.agg [.int .i64 0, .int .i64 0, .str [], .nils], .int .i64 e, .int .i64 ln], ⟨_, rfl, fr_tup (by rfl)⟩, e, ln, he, rfl⟩
    | some L =>
      rw [hL] at hR
      simp only at hR
      subst hR
      have hA := scan_oka (by omega) hL
      have ne : ((0 : Int) != 0) = false := by decide
      have hl : L.length ≤ 1000000 := by have := hA.len; omega
      have h1 := pexp_step (n := fuelT L.length) (pexpr_all _).1 (s := [.row [.int .i64 0, .int .i64 0, .str [], .nils] 40 0 0, RO true 0 L 0]) (m := 1) (z := true) (t := 0) (p := 0) hA rfl (Nat.zero_le _) (by unfold fuelT; omega)
      obtain ⟨v, q, c4, hq2, h3⟩ := h1
      rw [List.drop_zero] at h3
      obtain ⟨R, hR⟩ : ∃ R : Ob, R = .row [SL true 0 (L.map Tk.row), .int .i64 (q : Int)] 93 0 0 := ⟨_, rfl⟩
      have c4 : ThP TT PT 42 [.ptr 1 0 0] [.row [.int .i64 0, .int .i64 0, .str [], .nils] 40 0 0, .row [SL true 0 (L.map Tk.row), .int .i64 0] 93 0 0] v [.row [.int .i64 0, .int .i64 0, .str [], .nils] 40 0 0, .row [SL true 0 (L.map Tk.row), .int .i64 (q : Int)] 93 0 0] := c4
      simp only [go_sem, Nat.reduceEqDiff, reduceIte, Nat.reduceAdd, Nat.reduceMul, Nat.reduceLeDiff, Int.reduceLT, Int.reduceLE, Int.reduceToNat, Int.reduceAdd, Int.reduceNeg, Int.reduceEq]
      refine wx_fn hsc (by simp only [go_sem]) ?_
      simp only [go_sem, Nat.reduceEqDiff, reduceIte, Nat.reduceAdd, Nat.reduceMul, Nat.reduceLeDiff, Int.reduceLT, Int.reduceLE, Int.reduceToNat, Int.reduceAdd, Int.reduceNeg, Int.reduceEq, ne]
      unfold PR at h3
      have hread : ∀ x : List V, ∃ n : Int, ThP TT PT 43 [.ptr 1 0 0] [.row [.int .i64 0, .int .i64 0, .str [], .nils] 40 0 0, .row [SL true 0 (L.map Tk.row), .int .i64 (q : Int)] 93 0 0, .row x 40 0 0] (.int .i64 n) [.row [.int .i64 0, .int .i64 0, .str [], .nils] 40 0 0, .row [SL true 0 (L.map Tk.row), .int .i64 (q : Int)] 93 0 0, .row x 40 0 0] := fun x => line_th (s := [.row [.int .i64 0, .int .i64 0, .str [], .nils] 40 0 0, RO true 0 L q, .row x 40 0 0]) (m := 1) rfl hl hq2
      split at h3
      · rename_i x r ho
        obtain ⟨rfl, h3⟩ := h3
        have hxs := xset x
        have hr := xrow_def x
        rw [hr] at c4 hxs
        rw [ho]
        refine wx_any c4 ?_
        simp only [go_sem, Nat.reduceEqDiff, reduceIte, Nat.reduceAdd, Nat.reduceMul, Nat.reduceLeDiff, Int.reduceLT, Int.reduceLE, Int.reduceToNat, Int.reduceAdd, Int.reduceNeg, Int.reduceEq]
        by_cases hq : q < L.length
        · have f1 : ((q : Int) < (L.length : Int)) = True := eq_true (by omega)
          obtain ⟨n, hln⟩ := hread [.int .i64 x.op, .int .i64 x.n, .str x.nm, SL x.z x.t (x.l.map Xp.row)]
          refine w_drw (by kernel_rfl) ?_
          simp only [go_sem, Nat.reduceEqDiff, reduceIte, Nat.reduceAdd, Nat.reduceMul, Nat.reduceLeDiff, Int.reduceLT, Int.reduceLE, Int.reduceToNat, Int.reduceAdd, Int.reduceNeg, Int.reduceEq, toks_n, f1]
          refine wx_any hln ?_
          simp only [go_sem, Nat.reduceEqDiff, reduceIte, Nat.reduceAdd, Nat.reduceMul, Nat.reduceLeDiff, Int.reduceLT, Int.reduceLE, Int.reduceToNat, Int.reduceAdd, Int.reduceNeg, Int.reduceEq]
          have hne : r ≠ [] := fun e => by
            rw [e] at h3
            have := congrArg List.length h3
            rw [List.length_drop] at this
            simp at this
            omega
          refine ⟨.tup [.agg [.int .i64 0, .int .i64 0, .str [], .nils], .int .i64 3, .int .i64 n], ⟨_, rfl, fr_tup (by rfl)⟩, ?_⟩
          cases r with
          | nil => exact absurd rfl hne
          | cons a b => exact ⟨3, n, by decide, rfl⟩
        · have f1 : ((q : Int) < (L.length : Int)) = False := eq_false (by omega)
          rw [List.drop_eq_nil_of_le (by omega)] at h3
          subst h3
          refine w_drw (by kernel_rfl) ?_
          simp only [go_sem, Nat.reduceEqDiff, reduceIte, Nat.reduceAdd, Nat.reduceMul, Nat.reduceLeDiff, Int.reduceLT, Int.reduceLE, Int.reduceToNat, Int.reduceAdd, Int.reduceNeg, Int.reduceEq, toks_n, f1]
          refine ⟨.tup [.agg x.row, .int .i64 0, .int .i64 0], ?_, rfl⟩
          rw [hr]
          exact ⟨_, rfl, fr_tup (by simp only [go_sem, Nat.reduceEqDiff, reduceIte])⟩
      · rename_i ho
        subst h3
        rw [ho]
        obtain ⟨n, hln⟩ := hread [.int .i64 0, .int .i64 0, .str [], .nils]
        refine wx_any c4 ?_
        simp only [go_sem, Nat.reduceEqDiff, reduceIte, Nat.reduceAdd, Nat.reduceMul, Nat.reduceLeDiff, Int.reduceLT, Int.reduceLE, Int.reduceToNat, Int.reduceAdd, Int.reduceNeg, Int.reduceEq]
        refine w_drw (by kernel_rfl) ?_
        simp only [go_sem, Nat.reduceEqDiff, reduceIte, Nat.reduceAdd, Nat.reduceMul, Nat.reduceLeDiff, Int.reduceLT, Int.reduceLE, Int.reduceToNat, Int.reduceAdd, Int.reduceNeg, Int.reduceEq, toks_n]
        refine wx_any hln ?_
        simp only [go_sem, Nat.reduceEqDiff, reduceIte, Nat.reduceAdd, Nat.reduceMul, Nat.reduceLeDiff, Int.reduceLT, Int.reduceLE, Int.reduceToNat, Int.reduceAdd, Int.reduceNeg, Int.reduceEq]
        exact ⟨.tup [.agg [.int .i64 0, .int .i64 0, .str [], .nils], .int .i64 3, .int .i64 n], ⟨_, rfl, fr_tup (by rfl)⟩, 3, n, by decide, rfl⟩
/-! SameExpr -/
theorem same_step (x y : Xp) (hl : x.l.length ≤ 2) (ih : ∀ a ∈ x.l, ∀ b : Xp, Fn TT PT 18 [.agg a.row, .agg b.row] (.bool (sameX a b))) : Fn TT PT 18 [.agg x.row, .agg y.row] (.bool (sameX x y)) := by
  obtain ⟨op, n, nm, z, t, l⟩ := x
  obtain ⟨op', n', nm', z', t', l'⟩ := y
  have hx := xset ⟨op, n, nm, z, t, l⟩
  have hy := xset ⟨op', n', nm', z', t', l'⟩
  rw [xrow_def] at hx hy
  rw [xrow_def, xrow_def]
  simp only at hl ih hx hy ⊢
  have e1 : (l.map Xp.row).length = l.length := List.length_map ..
  have e2 : (l'.map Xp.row).length = l'.length := List.length_map ..
  have hv : sameX ⟨op, n, nm, z, t, l⟩ ⟨op', n', nm', z', t', l'⟩ = (op == op' && (n == n' && (nm == nm' && sameXs l l'))) := by rw [sameX]
  rw [hv]
  refine Fn_go T18 rfl ?_
  by_cases h1 : op = op'
  case neg =>
    have b1 : (op == op') = false := by simp [h1]
    have c1 : (op != op') = true := by simp [h1]
    rw [b1]
    simp only [go_sem, Nat.reduceEqDiff, reduceIte, Nat.reduceAdd, Nat.reduceMul, Nat.reduceLeDiff, Int.reduceLT, Int.reduceLE, Int.reduceToNat, Int.reduceAdd, Int.reduceNeg, Int.reduceEq, c1]
    exact fr_eq rfl rfl
  have b1 : (op == op') = true := by simp [h1]
  have c1 : (op != op') = false := by simp [h1]
  by_cases h2 : n = n'
  case neg =>
    have b2 : (n == n') = false := by simp [h2]
    have c2 : (n != n') = true := by simp [h2]
    rw [b1, b2]
    simp only [go_sem, Nat.reduceEqDiff, reduceIte, Nat.reduceAdd, Nat.reduceMul, Nat.reduceLeDiff, Int.reduceLT, Int.reduceLE, Int.reduceToNat, Int.reduceAdd, Int.reduceNeg, Int.reduceEq, c1, c2]
    exact fr_eq rfl rfl
  have b2 : (n == n') = true := by simp [h2]
  have c2 : (n != n') = false := by simp [h2]
  by_cases h3 : nm = nm'
  case neg =>
    have b3 : (nm == nm') = false := by simp [h3]
    have c3 : (nm != nm') = true := by simp [h3]
    rw [b1, b2, b3]
    simp only [go_sem, Nat.reduceEqDiff, reduceIte, Nat.reduceAdd, Nat.reduceMul, Nat.reduceLeDiff, Int.reduceLT, Int.reduceLE, Int.reduceToNat, Int.reduceAdd, Int.reduceNeg, Int.reduceEq, c1, c2, b3, Bool.not_false]
    exact fr_eq rfl rfl
  have b3 : (nm == nm') = true := by simp [h3]
  have c3 : (nm != nm') = false := by simp [h3]
  rw [b1, b2, b3]
  by_cases h4 : l.length = l'.length
  case neg =>
    have b4 : sameXs l l' = false := by
      have len : ∀ (a b : List Xp), sameXs a b = true → a.length = b.length := fun a => by
        induction a with
        | nil => intro b h; cases b with
          | nil => rfl
          | cons => cases h
        | cons x a ih => intro b h; cases b with
          | nil => cases h
          | cons y b =>
            simp only [sameXs, Bool.and_eq_true] at h
            simp [ih b h.2]
      cases h : sameXs l l'
      · rfl
      · exact absurd (len _ _ h) h4
    have c4 : ((l.length : Int) != (l'.length : Int)) = true := by simp; omega
    rw [b4]
    simp only [go_sem, Nat.reduceEqDiff, reduceIte, Nat.reduceAdd, Nat.reduceMul, Nat.reduceLeDiff, Int.reduceLT, Int.reduceLE, Int.reduceToNat, Int.reduceAdd, Int.reduceNeg, Int.reduceEq, c1, c2, b3, Bool.not_true, e1, e2, c4]
    exact fr_eq rfl rfl
  have c4 : ((l.length : Int) != (l'.length : Int)) = false := by simp [h4]
  simp only [go_sem, Nat.reduceEqDiff, reduceIte, Nat.reduceAdd, Nat.reduceMul, Nat.reduceLeDiff, Int.reduceLT, Int.reduceLE, Int.reduceToNat, Int.reduceAdd, Int.reduceNeg, Int.reduceEq, c1, c2, b3, Bool.not_true, e1, e2, c4]
  refine loop_w (α := Nat) (fun i => l.length - i) (fun i => [(2, .ptr 0 0 0), (3, .ptr 1 0 0), (5, .int .i64 (i : Int))]) (fun _ => [.row [.int .i64 op, .int .i64 n, .str nm, SL z t (l.map Xp.row)] 40 0 0, .row [.int .i64 op', .int .i64 n', .str nm', SL z' t' (l'.map Xp.row)] 40 0 0]) (fun i => i ≤ l.length ∧ sameXs l l' = sameXs (l.drop i) (l'.drop i)) ?_ 0 ⟨Nat.zero_le _, rfl⟩
  rintro i ⟨hi, hinv⟩ jh
  refine w_rep (by delta lp18_0; exact rfl) ?_
  by_cases hc : i < l.length
  · have f1 : ((i : Int) < (l.length : Int)) = True := eq_true (by omega)
    have hin := inc64 (show i < 9223372036854775807 by omega)
    obtain ⟨a, ha⟩ : ∃ a, l[i]? = some a := ⟨_, List.getElem?_eq_getElem hc⟩
    obtain ⟨b, hb⟩ : ∃ b, l'[i]? = some b := ⟨_, List.getElem?_eq_getElem (by omega)⟩
    have har := xrow_def a
    have hbr := xrow_def b
    have has := xset a
    have hbs := xset b
    have hm : a ∈ l := List.mem_of_getElem? ha
    have hf := ih a hm b
    have ha' : (l.map Xp.row)[i]? = some [.int .i64 a.op, .int .i64 a.n, .str a.nm, SL a.z a.t (a.l.map Xp.row)] := by rw [List.getElem?_map, ha, Option.map_some, har]
    have hb' : (l'.map Xp.row)[i]? = some [.int .i64 b.op, .int .i64 b.n, .str b.nm, SL b.z b.t (b.l.map Xp.row)] := by rw [List.getElem?_map, hb, Option.map_some, hbr]
    have hda : l.drop i = a :: l.drop (i + 1) := by rw [List.drop_eq_getElem_cons hc, (List.getElem?_eq_some_iff.1 ha).2]
    have hdb : l'.drop i = b :: l'.drop (i + 1) := by rw [List.drop_eq_getElem_cons (by omega), (List.getElem?_eq_some_iff.1 hb).2]
    rw [hda, hdb, sameXs] at hinv
    rw [har, hbr] at hf
    rw [har] at has
    rw [hbr] at hbs
    cases hab : sameX a b
    · rw [hab] at hf hinv
      simp only [go_sem, Nat.reduceEqDiff, reduceIte, Nat.reduceAdd, Nat.reduceMul, Nat.reduceLeDiff, Int.reduceLT, Int.reduceLE, Int.reduceToNat, Int.reduceAdd, Int.reduceNeg, Int.reduceEq, e1, f1]
      refine w_drw (by kernel_rfl) ?_
      simp only [go_sem, Nat.reduceEqDiff, reduceIte, Nat.reduceAdd, Nat.reduceMul, Nat.reduceLeDiff, Int.reduceLT, Int.reduceLE, Int.reduceToNat, Int.reduceAdd, Int.reduceNeg, Int.reduceEq, ha', hb']
      refine wgx_fn hf (by simp only [go_sem]) ?_
      simp only [go_sem, Nat.reduceEqDiff, reduceIte, Nat.reduceAdd, Nat.reduceMul, Nat.reduceLeDiff, Int.reduceLT, Int.reduceLE, Int.reduceToNat, Int.reduceAdd, Int.reduceNeg, Int.reduceEq]
      rw [hinv]
      exact fr_eq rfl rfl
    · rw [hab] at hf hinv
      simp only [go_sem, Nat.reduceEqDiff, reduceIte, Nat.reduceAdd, Nat.reduceMul, Nat.reduceLeDiff, Int.reduceLT, Int.reduceLE, Int.reduceToNat, Int.reduceAdd, Int.reduceNeg, Int.reduceEq, e1, f1]
      refine w_drw (by kernel_rfl) ?_
      simp only [go_sem, Nat.reduceEqDiff, reduceIte, Nat.reduceAdd, Nat.reduceMul, Nat.reduceLeDiff, Int.reduceLT, Int.reduceLE, Int.reduceToNat, Int.reduceAdd, Int.reduceNeg, Int.reduceEq, ha', hb']
      refine wgx_fn hf (by simp only [go_sem]) ?_
      simp only [go_sem, Nat.reduceEqDiff, reduceIte, Nat.reduceAdd, Nat.reduceMul, Nat.reduceLeDiff, Int.reduceLT, Int.reduceLE, Int.reduceToNat, Int.reduceAdd, Int.reduceNeg, Int.reduceEq, hin]
      exact W_keep (jh (i + 1) (by omega) ⟨hc, by simpa using hinv⟩) rfl
  · have f1 : ((i : Int) < (l.length : Int)) = False := eq_false (by omega)
    have hz : sameXs l l' = true := by
      rw [hinv, List.drop_eq_nil_of_le (by omega), List.drop_eq_nil_of_le (by omega)]
      rfl
    simp only [go_sem, Nat.reduceEqDiff, reduceIte, Nat.reduceAdd, Nat.reduceMul, Nat.reduceLeDiff, Int.reduceLT, Int.reduceLE, Int.reduceToNat, Int.reduceAdd, Int.reduceNeg, Int.reduceEq, e1, f1]
    rw [hz]
    exact fr_eq rfl rfl
theorem same_fn {x : Xp} (h : ShE x) : ∀ y : Xp, Fn TT PT 18 [.agg x.row, .agg y.row] (.bool (sameX x y)) := by
  induction h with
  | num _ => exact fun y => same_step _ y (by simp) (by simp)
  | name _ => exact fun y => same_step _ y (by simp) (by simp)
  | idx _ _ ih => exact fun y => same_step _ y (by simp) (by simpa using ih)
  | un _ _ ih => exact fun y => same_step _ y (by simp) (by simpa using ih)
  | bin _ _ _ ih1 ih2 => exact fun y => same_step _ y (by simp) (by simpa using ⟨ih1, ih2⟩)
/-! the maker -/
theorem mexpr_fn (z : Bool) (t : Nat) (l : List UInt8) (hl : l.length ≤ 9223372036854775807) : ∃ v, Fn TT PT 15 [SL z t (byteRows l)] v ∧ ∃ x : Xp, v = .agg x.row ∧ ShE x ∧ x.txt.length ≤ EB 5 := by
  refine fn_ex T15 rfl ?_
  obtain ⟨v, s', h1, ⟨x, rfl, hx, hxl⟩, h3, h4⟩ := lexpr 5 (by omega) [.row [.int .i64 0, .int .i64 0, .str [], .nils] 40 0 0, .row [SL z t (byteRows l), .int .i64 0] 54 0 0, .row [.ptr 1 0 0, .int .i64 0, .int .i64 0] 56 0 0] 2 1 ⟨⟨z, t, l, 0, rfl, Nat.zero_le _, hl⟩, by decide, 0, 0, rfl⟩
  have hxs := xset x
  have hr := xrow_def x
  rw [hr] at h1 hxs
  simp only [go_sem, Nat.reduceEqDiff, reduceIte, Nat.reduceAdd, Nat.reduceMul, Nat.reduceLeDiff, Int.reduceLT, Int.reduceLE, Int.reduceToNat, Int.reduceAdd, Int.reduceNeg, Int.reduceEq]
  refine wx_any h1 ?_
  have k0 : s'[0]? = some (.row [.int .i64 0, .int .i64 0, .str [], .nils] 40 0 0) := by rw [h3.2.1 0 (by simp) (by decide) (by decide)]; rfl
  have k1 : ∀ ob : Ob, (s'.set 0 ob)[0]? = some ob := fun ob => List.getElem?_set_self (by rw [h4]; simp)
  simp only [go_sem, Nat.reduceEqDiff, reduceIte, Nat.reduceAdd, Nat.reduceMul, Nat.reduceLeDiff, Int.reduceLT, Int.reduceLE, Int.reduceToNat, Int.reduceAdd, Int.reduceNeg, Int.reduceEq, k0, k1]
  refine ⟨.agg x.row, ?_, x, rfl, hx, hxl⟩
  rw [hr]
  simp only [go_sem, Nat.reduceEqDiff, reduceIte, Nat.reduceAdd, Nat.reduceMul, Nat.reduceLeDiff, Int.reduceLT, Int.reduceLE, Int.reduceToNat, Int.reduceAdd, Int.reduceNeg, Int.reduceEq, k1]
  exact fr_set hxs
end Go.Proofs.YtlehfgdhebapeaaDoor.KM
