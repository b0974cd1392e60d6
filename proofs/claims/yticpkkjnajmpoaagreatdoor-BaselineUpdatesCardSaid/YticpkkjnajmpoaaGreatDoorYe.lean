/- Walks: the law BaselineUpdates. -/
import Derived.Test.YticpkkjnajmpoaaGreatDoorYd
set_option linter.all false
namespace Go.Proofs.YticpkkjnajmpoaaGreatDoor.KM
open Go
theorem gw_nw2 {σ : St} {u : V} {l : List Ent} (h : GW σ 4 32 1 u (l.map Ent.row)) : NW σ u l := by
  rcases h with ⟨rfl, h⟩ | ⟨hn, i, g, rfl, ho, hlo⟩
  · refine .inr ⟨true, 0, ?_⟩
    rw [h]
    rfl
  · exact .inl ⟨i, g, 0, rfl, ho, hlo⟩
theorem gw_own3 {σ σ' σ0 : St} {m e lo : Nat} {u : V} {xs : List (List V)} (h : GW σ0 m e lo u xs) (hr : ∀ r ∈ xs, r.all V.rowB = true) (hl : σ'.length = σ.length) : GW (σ' ++ σ0.map (Ob.ren (· + σ.length))) m e (lo + σ.length) (u.ren (· + σ.length)) xs := by
  rcases h with ⟨rfl, rfl⟩ | ⟨hn, i, g, rfl, ho, hlo⟩
  · exact .inl ⟨rfl, rfl⟩
  · refine .inr ⟨hn, i + σ.length, g, rfl, ?_, by omega⟩
    rw [List.getElem?_append_right (by omega), hl, Nat.add_sub_cancel, List.getElem?_map, ho]
    simp only [Option.map_some, Ob.ren]
    rw [ren_rows _ _ (rows_all hr)]
theorem lo2_1 {cs : List V} {e g z off : Nat} {c : V} (h : cs[off]? = some c) : lo2 (some (.row cs e g z)) g 1 true off = some c := by
  obtain ⟨hl, rfl⟩ := List.getElem?_eq_some_iff.1 h
  rw [lo2_r, if_pos ⟨rfl, by omega⟩, List.drop_eq_getElem_cons hl]
  rfl
def tailU : AC := match af10.body with
  | .seq _ (.seq _ (.seq _ c)) => c
  | c => c
theorem upd_end (z : Bool) (t : Nat) (l : List Item) (n : Nat) (B L : List Ent) (w' : V) (l' : List Ent) (τ : St) (q : Nat) (hba : Fn TT PT 15 [SL z t (l.map Item.row), .int .u8 n] (.agg [.int .i64 n, SL true 0 (B.map Ent.row)])) (a3 : okE B) (a4 : B.length ≤ 1000000)
    (q0 : τ[q]? = some (.row [.int .i64 (n : Int), SL true 0 (B.map Ent.row)] 25 0 0)) (qn : NW τ w' l') (ql : okE l') (qr : ∀ i ∈ w'.refs, i ≠ q) :
    W TT PT [.c tailU] [(0, SL z t (l.map Item.row)), (2, .int .u8 n), (9, .ptr q 0 0), (10, w')] τ (FQ [AR.tmp 8] (.bool true)) := by
  delta tailU af10
  dsimp only
  have hql : q < τ.length := (List.getElem?_eq_some_iff.1 q0).1
  obtain ⟨z1, t1, ov⟩ := nw_ov qn
  have ov1 := ov []
  rw [List.append_nil] at ov1
  obtain ⟨v, σ1, hup, u0, L0, rfl, hng, hL, hcl1⟩ := updateN_own true z1 0 t1 n B l' a3 ql
  obtain ⟨τ1, ea, el, eo, en⟩ := nw_refs qn (args := [.agg [.int .i64 (n : Int), SL true 0 (B.map Ent.row)], w']) (v := .lst 0 []) (by simp [refsL, V.refs, rowB_refs (sl_row ..)])
  have hca := CallS.own (σ := τ) (args := [.agg [.int .i64 (n : Int), SL true 0 (B.map Ent.row)], w']) (over_ov (.cons (ov_set (by simp only [go_sem])) (.cons ov1 .nil))) hup
  have ef : St.freeze τ (jsOf τ [.agg [.int .i64 (n : Int), SL true 0 (B.map Ent.row)], w']) = τ1 := ea
  unfold own at hca
  rw [ef] at hca
  simp only [V.ren, renL] at hca
  have hng2 := ng_own (σ := τ) (σ' := τ1) hng el
  have hL2 : (L0.map (renP τ.length)).map (·.2) = (updRes n B l').2.1 := by rw [List.map_map]; exact hL
  generalize V.ren (fun x => x + τ.length) u0 = u at hca hng2
  generalize List.map (Ob.ren fun x => x + τ.length) σ1 = J at hca hng2
  generalize L0.map (renP τ.length) = M at hng2 hL2
  have hrl : okE (updRes n B l').2.1 := okE_of updRes_ok
  have hrn : (updRes n B l').2.1.length ≤ 1000000 := updRes_len
  have hself := updRes_self (n := n) (b := B) (now := l')
  have en1 : NW (τ1 ++ J) w' l' := nw_push (J := J) en
  have q1 : (τ1 ++ J)[q]? = some (.row [.int .i64 (n : Int), SL true 0 (B.map Ent.row)] 25 0 0) := get_app_some ((eo q (fun hm => qr q hm rfl)).trans q0)
  have hlo2 : τ.length ≤ (τ1 ++ J).length := by simp [el]
  generalize τ1 ++ J = σ2 at hca hng2 en1 q1 hlo2
  have huc := gw_cell hng2.1
  have q1' : ∀ Y : Ob, (σ2 ++ [Y])[q]? = some (.row [.int .i64 (n : Int), SL true 0 (B.map Ent.row)] 25 0 0) := fun Y => get_app_some q1
  obtain ⟨z2, t2, ov2⟩ := nw_ov (nw_push (J := [.row [.int .i64 (updRes n B l').1, u] 25 0 0]) en1)
  have ov2 := ov2 []
  rw [List.append_nil] at ov2
  have hup2 := rupdate_fn true z2 0 t2 n B l' a3 ql
  unfold baseV at hup2
  obtain ⟨τ3, ea2, el2, eo2, en2⟩ := nw_refs (nw_push (J := [.row [.int .i64 (updRes n B l').1, u] 25 0 0]) en1) (args := [.agg [.int .i64 (n : Int), SL true 0 (B.map Ent.row)], w']) (v := .tup [.agg [.int .i64 (updRes n B l').1, SL true 0 ((updRes n B l').2.1.map Ent.row)], .int .i64 (updRes n B l').2.2]) (by simp [refsL, V.refs, rowB_refs (sl_row ..)])
  have hou := ownL_eq hL2 hself
  clear hng hcl1 hup hL ea ef eo en hself
  generalize updRes n B l' = X at hca hL2 hrl hrn ov2 hup2 ea2 el2 eo2 hou
  obtain ⟨Xn, Xl, Xe⟩ := X
  simp only at hca hL2 hrl hrn ov2 hup2 ea2 el2 eo2 hou
  have hng3 : NG τ3 τ.length u M := ng_keep hng2 fun j hj hl => by
    rw [eo2 j (fun hm => by have := nw_lt qn j hm; omega), List.getElem?_append_left hl]
  have q3 : τ3[q]? = some (.row [.int .i64 (n : Int), SL true 0 (B.map Ent.row)] 25 0 0) := (eo2 q (fun hm => qr q hm rfl)).trans (q1' _)
  have m3 : τ3[σ2.length]? = some (.row [.int .i64 Xn, u] 25 0 0) := (eo2 _ (fun hm => by have := nw_lt qn _ hm; omega)).trans (get_app0 ..)
  have m4 : ∀ Y : Ob, (τ3 ++ [Y])[σ2.length]? = some (.row [.int .i64 Xn, u] 25 0 0) := fun Y => get_app_some m3
  have sb := sameB_fn true true 0 0 Xn Xl hrl hrn
  have hml : M.length = Xl.length := by rw [← hL2, List.length_map]
  have hlu : lenV u = some (.int .i64 (M.length : Int)) := by
    have := gw_len hng3.1
    rwa [List.length_map] at this
  have how := ng_ow (s := τ3 ++ [.row [.int .i64 Xn, SL true 0 (Xl.map Ent.row)] 25 0 0]) (ng_keep hng3 fun j hj hl => List.getElem?_append_left hl) Xn
  rw [hou] at how
  simp only [go_sem, Nat.reduceEqDiff, reduceIte, Nat.reduceAdd, Nat.reduceMul, Nat.reduceLeDiff, Int.reduceLT, Int.reduceLE, Int.reduceToNat, Int.reduceAdd, Int.reduceNeg, Int.reduceEq, q0]
  refine wx_call hca ?_
  simp only [go_sem, Nat.reduceEqDiff, reduceIte, Nat.reduceAdd, Nat.reduceMul, Nat.reduceLeDiff, Int.reduceLT, Int.reduceLE, Int.reduceToNat, Int.reduceAdd, Int.reduceNeg, Int.reduceEq, huc, q1']
  refine wx_fz (.cons (ov_set (by simp only [go_sem])) (.cons ov2 .nil)) hup2 ea2 ?_
  simp only [go_sem, Nat.reduceEqDiff, reduceIte, Nat.reduceAdd, Nat.reduceMul, Nat.reduceLeDiff, Int.reduceLT, Int.reduceLE, Int.reduceToNat, Int.reduceAdd, Int.reduceNeg, Int.reduceEq, m4, bne_self_eq_false]
  refine wx_ow (.cons how (.cons (ow_ov (ov_set (by simp only [go_sem]))) .nil)) sb (by rfl) ?_
  simp only [go_sem, Nat.reduceEqDiff, reduceIte, Nat.reduceAdd, Nat.reduceMul, Nat.reduceLeDiff, Int.reduceLT, Int.reduceLE, Int.reduceToNat, Int.reduceAdd, Int.reduceNeg, Int.reduceEq, m4, hlu]
  refine loop_w (α := Nat × St) (fun a => M.length - a.1) (fun a => [(0, SL z t (l.map Item.row)), (2, .int .u8 n), (9, .ptr q 0 0), (11, .ptr σ2.length 0 0), (61, .int .i64 M.length), (62, .int .i64 a.1)]) (fun a => a.2)
    (fun a => a.1 ≤ M.length ∧ UW a.2 q σ2.length (.row [.int .i64 (n : Int), SL true 0 (B.map Ent.row)] 25 0 0) Xn u τ.length M) ?_ (0, τ3 ++ [.row [.int .i64 Xn, SL true 0 (Xl.map Ent.row)] 25 0 0]) ⟨by simp, uw_of (get_app_some q3) (m4 _) (ng_keep hng3 fun j hj hl => List.getElem?_append_left hl)⟩
  rintro ⟨i, s⟩ ⟨hi, hU⟩ ih
  simp only at hi hU ih
  refine w_rep (by delta lp10_1; exact rfl) ?_
  rcases Nat.lt_or_ge i M.length with h | h
  · obtain ⟨p, hp, -, hm⟩ := at_some h
    have hps : p.2.sites.length ≤ 9223372036854775807 := hrl p.2 (by rw [← hL2]; exact List.mem_map_of_mem hm)
    have c0 : ((0 : Int) ≤ (i : Int)) = True := eq_true (by omega)
    have c1 : ((i : Int) < (M.length : Int)) = True := eq_true (by omega)
    have hget : ∀ s1, UW s1 q σ2.length (.row [.int .i64 (n : Int), SL true 0 (B.map Ent.row)] 25 0 0) Xn u τ.length M → ∃ iu g, u = .sl iu g 0 M.length 4 true ∧ lo2 s1[iu]? g 1 true (i * 4 + 1) = some p.1 := by
      intro s1 hU1
      rcases hU1.lst with ⟨-, h0⟩ | ⟨-, iu, g, eu, ho, -⟩
      · rw [List.map_eq_nil_iff] at h0
        rw [h0] at h
        simp at h
      · refine ⟨iu, g, by rw [eu, List.length_map], ?_⟩
        rw [ho]
        exact lo2_1 (nflat_at hp)
    obtain ⟨iu, g, eu, hc⟩ := hget s hU
    have hpl : lenV p.1 = some (.int .i64 (p.2.sites.length : Int)) := by
      obtain ⟨rows, r1, r2, r3, r4⟩ := hU.sit p hm
      rw [gw_len r4, r1]
    have hout := hU.out
    rw [eu] at hout
    simp only [go_sem, Nat.reduceEqDiff, reduceIte, Nat.reduceAdd, Nat.reduceMul, Nat.reduceLeDiff, Int.reduceLT, Int.reduceLE, Int.reduceToNat, Int.reduceAdd, Int.reduceNeg, Int.reduceEq, lt_t h, hout, c0, c1, Int.toNat_natCast, Nat.zero_add, hc, hpl]
    refine loop_w (α := Nat × St) (fun a => p.2.sites.length - a.1) (fun a => [(0, SL z t (l.map Item.row)), (2, .int .u8 n), (9, .ptr q 0 0), (11, .ptr σ2.length 0 0), (15, .int .i64 i), (61, .int .i64 M.length), (62, .int .i64 i), (71, .int .i64 p.2.sites.length), (72, .int .i64 a.1)]) (fun a => a.2)
      (fun a => a.1 ≤ p.2.sites.length ∧ UW a.2 q σ2.length (.row [.int .i64 (n : Int), SL true 0 (B.map Ent.row)] 25 0 0) Xn u τ.length M) ?_ (0, s) ⟨by simp, hU⟩
    rintro ⟨j, s2⟩ ⟨hj, hU2⟩ ih2
    simp only at hj hU2 ih2
    refine w_rep (by delta lp10_0; exact rfl) ?_
    rcases Nat.lt_or_ge j p.2.sites.length with h2 | h2
    · obtain ⟨iu2, g2, eu2, hc2⟩ := hget s2 hU2
      obtain ⟨jo, jg, cs, cs', ep, ho, hle, hcl, hput, hU3⟩ := uw_put hU2 (fun cs e g z hB => by cases hB; omega) ⟨_, _, _, _, rfl⟩ hm h2 (.int .i64 (-1))
      have hput' : cs' = cs.take (j * 3 + 2) ++ .int .i64 (-1) :: cs.drop (j * 3 + 2 + 1) := by
        unfold putAt at hput
        rw [if_pos (by simpa using hle)] at hput
        simpa using (Option.some.inj hput).symm
      rw [hput'] at hU3
      have hle' : (j * 3 + 2 + 1 ≤ cs.length) = True := eq_true hle
      have hout2 := hU2.out
      rw [eu2] at hout2
      rw [ep] at hc2
      have d0 : ((0 : Int) ≤ (j : Int)) = True := eq_true (by omega)
      have d1 : ((j : Int) < (p.2.sites.length : Int)) = True := eq_true (by omega)
      simp only [go_sem, Nat.reduceEqDiff, reduceIte, Nat.reduceAdd, Nat.reduceMul, Nat.reduceLeDiff, Int.reduceLT, Int.reduceLE, Int.reduceToNat, Int.reduceAdd, Int.reduceNeg, Int.reduceEq, lt_t h2, hout2, c0, c1, d0, d1, Int.toNat_natCast, Nat.zero_add, hc2, ho, hle', inc64 (show j < 9223372036854775807 by omega)]
      exact W_keep (ih2 (j + 1, _) (by simp; omega) ⟨by simp; omega, hU3⟩) rfl
    · obtain rfl : j = p.2.sites.length := by omega
      simp only [go_sem, Nat.reduceEqDiff, reduceIte, Nat.reduceAdd, Nat.reduceMul, Nat.reduceLeDiff, Int.reduceLT, Int.reduceLE, Int.reduceToNat, Int.reduceAdd, Int.reduceNeg, Int.reduceEq, lt_f h2, inc64 (show i < 9223372036854775807 by omega)]
      exact W_keep (ih (i + 1, s2) (by simp; omega) ⟨by simp; omega, hU2⟩) rfl
  · obtain rfl : i = M.length := by omega
    have q5 := hU.bef
    have sb2 := sameB_fn true true 0 0 n B a3 a4
    simp only [go_sem, Nat.reduceEqDiff, reduceIte, Nat.reduceAdd, Nat.reduceMul, Nat.reduceLeDiff, Int.reduceLT, Int.reduceLE, Int.reduceToNat, Int.reduceAdd, Int.reduceNeg, Int.reduceEq, lt_f h]
    refine w_drw (by kernel_rfl) ?_
    simp only [go_sem, Nat.reduceEqDiff, reduceIte, Nat.reduceAdd, Nat.reduceMul, Nat.reduceLeDiff, Int.reduceLT, Int.reduceLE, Int.reduceToNat, Int.reduceAdd, Int.reduceNeg, Int.reduceEq, q5]
    refine wgx_fn hba (by simp only [go_sem]) ?_
    simp only [go_sem, Nat.reduceEqDiff, reduceIte, Nat.reduceAdd, Nat.reduceMul, Nat.reduceLeDiff, Int.reduceLT, Int.reduceLE, Int.reduceToNat, Int.reduceAdd, Int.reduceNeg, Int.reduceEq]
    refine wgx_fn sb2 (by simp only [go_sem]) ?_
    simp only [go_sem, Nat.reduceEqDiff, reduceIte, Nat.reduceAdd, Nat.reduceMul, Nat.reduceLeDiff, Int.reduceLT, Int.reduceLE, Int.reduceToNat, Int.reduceAdd, Int.reduceNeg, Int.reduceEq]
    refine wgx_fn awake_fn (by simp only [go_sem]) ?_
    simp only [go_sem, Nat.reduceEqDiff, reduceIte, Nat.reduceAdd, Nat.reduceMul, Nat.reduceLeDiff, Int.reduceLT, Int.reduceLE, Int.reduceToNat, Int.reduceAdd, Int.reduceNeg, Int.reduceEq]
    exact fr_set rfl
theorem lawUpdates_fn (z z' : Bool) (t t' : Nat) (l m : List Item) (n : Nat) (tw : Bool) (hn : n < 256) (hl : l.length ≤ 9223372036854775807) (hok : ∀ x ∈ l, x.ok) (hl' : m.length ≤ 9223372036854775807) (hok' : ∀ x ∈ m, x.ok) :
    Fn TT PT 10 [SL z t (l.map Item.row), SL z' t' (m.map Item.row), .int .u8 n, .bool tw] (.bool true) := by
  have hba := base_fn z t l n hn hl hok
  obtain ⟨u, σ0, hen, hg, hcl⟩ := entries_own z' t' m hl' hok'
  obtain ⟨b1, b2, -⟩ := preE_inv m 20
  have a3 := okE_of (pre_ok l)
  have b3 := okE_of (pre_ok m)
  have hg2 := gw_own3 (σ := []) (σ' := []) hg (erows_row _) rfl
  simp only [List.nil_append, List.length_nil, Nat.add_zero] at hg2
  have a4 : (preE l 20).length ≤ 1000000 := by have := (preE_inv l 20).1; omega
  generalize preE l 20 = B at hba a3 a4
  generalize preE m 20 = L at hg hg2 b1 b3
  refine Fn_go T10 rfl ?_
  simp only [go_sem, Nat.reduceEqDiff, reduceIte, Nat.reduceAdd, Nat.reduceMul, Nat.reduceLeDiff, Int.reduceLT, Int.reduceLE, Int.reduceToNat, Int.reduceAdd, Int.reduceNeg, Int.reduceEq]
  refine wx_fn hba (by simp only [go_sem]) ?_
  simp only [go_sem, Nat.reduceEqDiff, reduceIte, Nat.reduceAdd, Nat.reduceMul, Nat.reduceLeDiff, Int.reduceLT, Int.reduceLE, Int.reduceToNat, Int.reduceAdd, Int.reduceNeg, Int.reduceEq]
  refine wx_call (.own (over_set (by simp only [go_sem])) hen) ?_
  rw [own_nil (setL_refs (by simp only [go_sem]))]
  simp only [go_sem, Nat.reduceEqDiff, reduceIte, Nat.reduceAdd, Nat.reduceMul, Nat.reduceLeDiff, Int.reduceLT, Int.reduceLE, Int.reduceToNat, Int.reduceAdd, Int.reduceNeg, Int.reduceEq]
  generalize List.map (Ob.ren fun x => x) σ0 = σ at hg2 ⊢
  generalize V.ren (fun x => x) u = w at hg2 ⊢
  have hfin : ∀ (w' : V) (l' : List Ent) (τ : St) (q : Nat), τ[q]? = some (.row [.int .i64 (n : Int), SL true 0 (B.map Ent.row)] 25 0 0) → NW τ w' l' → okE l' → (∀ i ∈ w'.refs, i ≠ q) → W TT PT [.c tailU] [(0, SL z t (l.map Item.row)), (2, .int .u8 n), (9, .ptr q 0 0), (10, w')] τ (FQ [AR.tmp 8] (.bool true)) :=
    fun w' l' τ q q0 qn ql qr => upd_end z t l n B B w' l' τ q hba a3 a4 q0 qn ql qr
  have hwc := gw_cell hg2
  have hwl := gw_len hg2
  have hwr : ∀ i ∈ w.refs, i ≠ σ.length := fun i hi => by have := gw_refs hg2 i hi; omega
  have hq : ∀ J : St, (σ ++ [Ob.row [.int .i64 (n : Int), SL true 0 (B.map Ent.row)] 25 0 0] ++ J)[σ.length]? = some (.row [.int .i64 (n : Int), SL true 0 (B.map Ent.row)] 25 0 0) := fun J => get_app_some (get_app0 ..)
  rw [List.length_map] at hwl
  cases tw
  · simp only [go_sem, Nat.reduceEqDiff, reduceIte, Nat.reduceAdd, Nat.reduceMul, Nat.reduceLeDiff, Int.reduceLT, Int.reduceLE, Int.reduceToNat, Int.reduceAdd, Int.reduceNeg, Int.reduceEq]
    have hh := hfin w L (σ ++ [Ob.row [.int .i64 (n : Int), SL true 0 (B.map Ent.row)] 25 0 0]) σ.length (get_app0 ..) (nw_push (gw_nw2 hg2)) b3 hwr
    unfold tailU af10 at hh
    dsimp only at hh
    simp only [go_sem, Nat.reduceEqDiff, reduceIte, Nat.reduceAdd, Nat.reduceMul, Nat.reduceLeDiff, Int.reduceLT, Int.reduceLE, Int.reduceToNat, Int.reduceAdd, Int.reduceNeg, Int.reduceEq] at hh
    exact hh
  · cases hlt : decide ((1 : Int) < (L.length : Int))
    · simp only [go_sem, Nat.reduceEqDiff, reduceIte, Nat.reduceAdd, Nat.reduceMul, Nat.reduceLeDiff, Int.reduceLT, Int.reduceLE, Int.reduceToNat, Int.reduceAdd, Int.reduceNeg, Int.reduceEq, hwl, hlt]
      have hh := hfin w L (σ ++ [Ob.row [.int .i64 (n : Int), SL true 0 (B.map Ent.row)] 25 0 0]) σ.length (get_app0 ..) (nw_push (gw_nw2 hg2)) b3 hwr
      unfold tailU af10 at hh
      dsimp only at hh
      simp only [go_sem, Nat.reduceEqDiff, reduceIte, Nat.reduceAdd, Nat.reduceMul, Nat.reduceLeDiff, Int.reduceLT, Int.reduceLE, Int.reduceToNat, Int.reduceAdd, Int.reduceNeg, Int.reduceEq] at hh
      exact hh
    · simp only [go_sem, Nat.reduceEqDiff, reduceIte, Nat.reduceAdd, Nat.reduceMul, Nat.reduceLeDiff, Int.reduceLT, Int.reduceLE, Int.reduceToNat, Int.reduceAdd, Int.reduceNeg, Int.reduceEq, hwl, hlt]
      obtain ⟨x0, x1, R, rfl⟩ : ∃ x0 x1 R, L = x0 :: x1 :: R := by
        match L, hlt with
        | x0 :: x1 :: R, _ => exact ⟨x0, x1, R, rfl⟩
        | [x0], h => simp at h
        | [], h => simp at h
      rcases hg2 with ⟨-, h⟩ | ⟨hn0, i, g, rfl, ho, hlo⟩
      · simp at h
      have hil : i < σ.length := (List.getElem?_eq_some_iff.1 ho).1
      have ho' := get_app_some (l := [Ob.row [.int .i64 (n : Int), SL true 0 (B.map Ent.row)] 25 0 0]) ho
      have c1 : ((1 : Int) < ((R.length + 1 + 1 : Nat) : Int)) = True := eq_true (by omega)
      have c0 : ((0 : Int) < ((R.length + 1 + 1 : Nat) : Int)) = True := eq_true (by omega)
      simp only [List.map_cons, List.flatten_cons, ent_def, List.cons_append, List.nil_append] at ho'
      generalize hF : (R.map Ent.row).flatten = F at ho'
      have l8 : (8 ≤ F.length + 1 + 1 + 1 + 1 + 1 + 1 + 1 + 1) = True := eq_true (by omega)
      have l4 : (4 ≤ F.length + 1 + 1 + 1 + 1 + 1 + 1 + 1 + 1) = True := eq_true (by omega)
      have hset : ∀ X : Ob, ((σ ++ [Ob.row [.int .i64 (n : Int), SL true 0 (B.map Ent.row)] 25 0 0]).set i X)[i]? = some X := fun X => List.getElem?_set_self (by simp; omega)
      refine w_drw (by kernel_rfl) ?_
      simp only [go_sem, Nat.reduceEqDiff, reduceIte, Nat.reduceAdd, Nat.reduceMul, Nat.reduceLeDiff, Int.reduceLT, Int.reduceLE, Int.reduceToNat, Int.reduceAdd, Int.reduceNeg, Int.reduceEq, List.length_map, c0, c1, ho', l8, l4]
      refine wgk_ef' (by repeat (first | exact trivial | refine ⟨.inl (by rfl), ?_⟩ | refine ⟨by rfl, ?_⟩ | refine ⟨.inr ⟨by rfl, by rfl⟩, ?_⟩)) (by repeat (first | exact trivial | refine ⟨.inl (by rfl), ?_⟩ | refine ⟨by rfl, ?_⟩ | refine ⟨.inr ⟨by rfl, by rfl⟩, ?_⟩)) ?_
      simp only [go_sem, Nat.reduceEqDiff, reduceIte, Nat.reduceAdd, Nat.reduceMul, Nat.reduceLeDiff, Int.reduceLT, Int.reduceLE, Int.reduceToNat, Int.reduceAdd, Int.reduceNeg, Int.reduceEq, List.length_map, c0, c1, hset, l8, l4]
      refine wgk_ef' (by repeat (first | exact trivial | refine ⟨.inl (by rfl), ?_⟩ | refine ⟨by rfl, ?_⟩ | refine ⟨.inr ⟨by rfl, by rfl⟩, ?_⟩)) (by repeat (first | exact trivial | refine ⟨.inl (by rfl), ?_⟩ | refine ⟨by rfl, ?_⟩ | refine ⟨.inr ⟨by rfl, by rfl⟩, ?_⟩)) ?_
      simp only [go_sem, Nat.reduceEqDiff, reduceIte, Nat.reduceAdd, Nat.reduceMul, Nat.reduceLeDiff, Int.reduceLT, Int.reduceLE, Int.reduceToNat, Int.reduceAdd, Int.reduceNeg, Int.reduceEq]
      have hh := fun h1 h2 h3 h4 => hfin (.sl i g 0 (R.length + 1 + 1) 4 true) (x1 :: x0 :: R) (((σ ++ [Ob.row [.int .i64 (n : Int), SL true 0 (B.map Ent.row)] 25 0 0]).set i (.row (.int .i64 x1.kind :: x1.sl :: .int .i64 x1.seen :: .int .i64 x1.missed :: .int .i64 x1.kind :: x1.sl :: .int .i64 x1.seen :: .int .i64 x1.missed :: F) 32 g 0)).set i (.row (.int .i64 x1.kind :: x1.sl :: .int .i64 x1.seen :: .int .i64 x1.missed :: .int .i64 x0.kind :: x0.sl :: .int .i64 x0.seen :: .int .i64 x0.missed :: F) 32 g 0)) σ.length h1 (.inl ⟨i, g, 0, by simp, h2, hlo⟩) h3 h4
      specialize hh ?_ ?_ ?_ ?_
      rotate_right
      · unfold tailU af10 at hh
        dsimp only at hh
        simp only [go_sem, Nat.reduceEqDiff, reduceIte, Nat.reduceAdd, Nat.reduceMul, Nat.reduceLeDiff, Int.reduceLT, Int.reduceLE, Int.reduceToNat, Int.reduceAdd, Int.reduceNeg, Int.reduceEq] at hh
        exact hh
      · rw [List.getElem?_set_ne (by omega), List.getElem?_set_ne (by omega)]
        exact get_app0 ..
      · rw [List.getElem?_set_self (by simp; omega)]
        simp only [List.map_cons, List.flatten_cons, ent_def, List.cons_append, List.nil_append, hF]
      · intro y hy
        refine b3 y ?_
        simp only [List.mem_cons] at hy ⊢
        rcases hy with h | h | h
        · exact .inr (.inl h)
        · exact .inl h
        · exact .inr (.inr h)
      · intro j hj
        simp [V.refs] at hj
        omega
end Go.Proofs.YticpkkjnajmpoaaGreatDoor.KM
