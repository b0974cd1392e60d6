/- Walks: the law BaselineCompares. -/
import Derived.Test.YticpkkjnajmpoaaGreatDoorRa
import Derived.Test.YticpkkjnajmpoaaGreatDoorPy
import Derived.Test.YticpkkjnajmpoaaGreatDoorPz
set_option linter.all false
namespace Go.Proofs.YticpkkjnajmpoaaGreatDoor.KM
open Go
theorem gw_nw {σ : St} {u : V} {l : List Ent} (h : GW σ 4 32 1 u (l.map Ent.row)) : NW σ u l := by
  rcases h with ⟨rfl, h⟩ | ⟨hn, i, g, rfl, ho, hlo⟩
  · refine .inr ⟨true, 0, ?_⟩
    rw [h]
    rfl
  · exact .inl ⟨i, g, 0, rfl, ho, hlo⟩
theorem gw_own2 {σ σ' σ0 : St} {m e lo : Nat} {u : V} {xs : List (List V)} (h : GW σ0 m e lo u xs) (hr : ∀ r ∈ xs, r.all V.rowB = true) (hl : σ'.length = σ.length) : GW (σ' ++ σ0.map (Ob.ren (· + σ.length))) m e (lo + σ.length) (u.ren (· + σ.length)) xs := by
  rcases h with ⟨rfl, rfl⟩ | ⟨hn, i, g, rfl, ho, hlo⟩
  · exact .inl ⟨rfl, rfl⟩
  · refine .inr ⟨hn, i + σ.length, g, rfl, ?_, by omega⟩
    rw [List.getElem?_append_right (by omega), hl, Nat.add_sub_cancel, List.getElem?_map, ho]
    simp only [Option.map_some, Ob.ren]
    rw [ren_rows _ _ (rows_all hr)]
theorem cmpL_okV {n : Int} {b now : List Ent} : ∀ c ∈ cmpL n b now, okV c.2 := by
  unfold cmpL
  split
  · rename_i hv
    simp only [Bool.and_eq_true] at hv
    obtain ⟨b1, b2, b3, b4, b5⟩ := valid_parts hv.1
    obtain ⟨c1, c2, c3, c4, c5⟩ := valid_parts hv.2
    intro c hc
    obtain ⟨p, hp, rfl⟩ := List.mem_map.1 hc
    have own : ∀ x, okV x → okV x.own := fun x hx => by
      have := okV_num hx
      exact okV_set hx x.seen x.missed (by omega) (by omega) (by omega) (by omega)
    rcases merge_mem b now b2 c2 p hp with ⟨z, hz, rfl, _⟩ | ⟨z, hz, rfl, _⟩ | ⟨z, hz, u, hu, rfl, _⟩
    · exact own z (b3 z hz)
    · exact own z (c3 z hz)
    · exact own z (b3 z hz)
  · intro c hc; cases hc
theorem cmpL_len {n : Int} {b now : List Ent} : (cmpL n b now).length ≤ 1000000 := by
  unfold cmpL
  split
  · rename_i hv
    simp only [Bool.and_eq_true] at hv
    obtain ⟨b1, b2, b3, b4, b5⟩ := valid_parts hv.1
    obtain ⟨c1, c2, c3, c4, c5⟩ := valid_parts hv.2
    have := merge_len b now
    rw [List.length_map]
    omega
  · simp
theorem rd2_ok {s : St} {q x : Nat} {e : Env} {a b : V} (h : s[q]? = some (.row [a, b] 25 0 0)) (he : e.get x = .ptr q 0 0 := by rfl) : evalOp (.load 2 false (.t x)) e s = some (.agg [a, b], s) := by
  simp only [evalOp, src, he, loadV, h]
  rfl
def tailD : AC := match af9.body with
  | .seq _ (.seq _ (.seq _ (.seq c _))) => c
  | c => c
theorem wgx_fz {deps : List (List Nat)} {n m f : Nat} {e : Env} {σ σ' : St} {fs : Fs} {ls : Ls} {K : Env → St → Fs → Ls → Prop} {i : AI} {args vs : List V} {v : V} (hx : OVs σ args vs) (hf : Fn TT PT f vs v) (ha : after σ args v = σ') (h1 : chB deps n m fs) (h2 : chR deps n m σ σ' ls)
    (h : K (e.putO i.dst v) σ' ((m, σ, σ') :: fs) ls) : wgx TT PT deps n m i (.call f args) e σ fs ls K := .inr (.inr ⟨v, σ', ha ▸ .pure (over_ov hx) hf, h1, h2, h⟩)
theorem lawCompares_fn (z z' : Bool) (t t' : Nat) (l m : List Item) (n : Nat) (tw : Bool) (hn : n < 256) (hl : l.length ≤ 9223372036854775807) (hok : ∀ x ∈ l, x.ok) (hl' : m.length ≤ 9223372036854775807) (hok' : ∀ x ∈ m, x.ok) :
    Fn TT PT 9 [SL z t (l.map Item.row), SL z' t' (m.map Item.row), .int .u8 n, .bool tw] (.bool true) := by
  have hba := base_fn z t l n hn hl hok
  obtain ⟨u, σ0, hen, hg, hcl⟩ := entries_own z' t' m hl' hok'
  obtain ⟨b1, b2, -⟩ := preE_inv m 20
  have a3 := okE_of (pre_ok l)
  have b3 := okE_of (pre_ok m)
  have hg2 := gw_own2 (σ := []) (σ' := []) hg (erows_row _) rfl
  simp only [List.nil_append, List.length_nil, Nat.add_zero] at hg2
  generalize preE l 20 = B at hba a3
  generalize preE m 20 = L at hg hg2 b1 b3
  refine Fn_go T9 rfl ?_
  simp only [go_sem, Nat.reduceEqDiff, reduceIte, Nat.reduceAdd, Nat.reduceMul, Nat.reduceLeDiff, Int.reduceLT, Int.reduceLE, Int.reduceToNat, Int.reduceAdd, Int.reduceNeg, Int.reduceEq]
  refine wx_fn hba (by simp only [go_sem]) ?_
  simp only [go_sem, Nat.reduceEqDiff, reduceIte, Nat.reduceAdd, Nat.reduceMul, Nat.reduceLeDiff, Int.reduceLT, Int.reduceLE, Int.reduceToNat, Int.reduceAdd, Int.reduceNeg, Int.reduceEq]
  refine wx_call (.own (over_set (by simp only [go_sem])) hen) ?_
  rw [own_nil (setL_refs (by simp only [go_sem]))]
  simp only [go_sem, Nat.reduceEqDiff, reduceIte, Nat.reduceAdd, Nat.reduceMul, Nat.reduceLeDiff, Int.reduceLT, Int.reduceLE, Int.reduceToNat, Int.reduceAdd, Int.reduceNeg, Int.reduceEq]
  generalize List.map (Ob.ren fun x => x) σ0 = σ at hg2 ⊢
  generalize V.ren (fun x => x) u = w at hg2 ⊢
  have hfin : ∀ (w' : V) (l' : List Ent) (τ : St) (q : Nat), τ[q]? = some (.row [.int .i64 (n : Int), SL true 0 (B.map Ent.row)] 25 0 0) → NW τ w' l' → okE l' → (∀ i ∈ w'.refs, i ≠ q) → W TT PT [.c tailD, .c .ret] [(9, .ptr q 0 0), (10, w')] τ (FQ [AR.tmp 8] (.bool true)) := by
    intro w' l' τ q q0 qn ql qr
    delta tailD af9
    dsimp only
    obtain ⟨z1, t1, ov⟩ := nw_ov qn
    have ov1 := ov []
    rw [List.append_nil] at ov1
    have hc1 := compareB_fn true z1 0 t1 n B l' a3 ql
    obtain ⟨τ1, ea, el, eo, en⟩ := nw_refs qn (args := [.agg [.int .i64 (n : Int), SL true 0 (B.map Ent.row)], w']) (v := SL true 0 ((cmpL n B l').map crow)) (by simp [refsL, V.refs, rowB_refs (sl_row ..)])
    have q1 : τ1[q]? = some (.row [.int .i64 (n : Int), SL true 0 (B.map Ent.row)] 25 0 0) := (eo q (fun hm => qr q hm rfl)).trans q0
    obtain ⟨z2, t2, ov'⟩ := nw_ov en
    have ov2 := ov' []
    rw [List.append_nil] at ov2
    have hc2 := rchanges_fn true z2 0 t2 n B l' a3 ql
    obtain ⟨τ2, ea2, el2, eo2, en2⟩ := nw_refs en (args := [.agg [.int .i64 (n : Int), SL true 0 (B.map Ent.row)], w']) (v := SL true 0 ((cmpL n B l').map crow)) (by simp [refsL, V.refs, rowB_refs (sl_row ..)])
    have hs := sameC_fn true true 0 0 (cmpL n B l') cmpL_okV cmpL_len
    refine w_drw (by kernel_rfl) ?_
    simp only [go_sem, Nat.reduceEqDiff, reduceIte, Nat.reduceAdd, Nat.reduceMul, Nat.reduceLeDiff, Int.reduceLT, Int.reduceLE, Int.reduceToNat, Int.reduceAdd, Int.reduceNeg, Int.reduceEq, q0]
    refine wgx_fz (.cons (ov_set (by simp only [go_sem])) (.cons ov1 .nil)) hc1 ea (by repeat (first | exact trivial | refine ⟨.inl (by rfl), ?_⟩ | refine ⟨by rfl, ?_⟩ | refine ⟨.inr ⟨by rfl, by rfl⟩, ?_⟩)) (by repeat (first | exact trivial | refine ⟨.inl (by rfl), ?_⟩ | refine ⟨by rfl, ?_⟩ | refine ⟨.inr ⟨by rfl, by rfl⟩, ?_⟩)) ?_
    simp only [go_sem, Nat.reduceEqDiff, reduceIte, Nat.reduceAdd, Nat.reduceMul, Nat.reduceLeDiff, Int.reduceLT, Int.reduceLE, Int.reduceToNat, Int.reduceAdd, Int.reduceNeg, Int.reduceEq, q1]
    refine wgk_rd' ⟨.inr ⟨rd2_ok q0, rd2_ok q1⟩, trivial⟩ ?_
    simp only [go_sem, Nat.reduceEqDiff, reduceIte, Nat.reduceAdd, Nat.reduceMul, Nat.reduceLeDiff, Int.reduceLT, Int.reduceLE, Int.reduceToNat, Int.reduceAdd, Int.reduceNeg, Int.reduceEq]
    refine wgx_fz (.cons (ov_set (by simp only [go_sem])) (.cons ov2 .nil)) hc2 ea2 (by repeat (first | exact trivial | refine ⟨.inl (by rfl), ?_⟩ | refine ⟨by rfl, ?_⟩ | refine ⟨.inr ⟨by rfl, by rfl⟩, ?_⟩)) (by repeat (first | exact trivial | refine ⟨.inl (by rfl), ?_⟩ | refine ⟨by rfl, ?_⟩ | refine ⟨.inr ⟨by rfl, by rfl⟩, ?_⟩)) ?_
    simp only [go_sem, Nat.reduceEqDiff, reduceIte, Nat.reduceAdd, Nat.reduceMul, Nat.reduceLeDiff, Int.reduceLT, Int.reduceLE, Int.reduceToNat, Int.reduceAdd, Int.reduceNeg, Int.reduceEq]
    refine wgx_fn hs (by simp only [go_sem]) ?_
    simp only [go_sem, Nat.reduceEqDiff, reduceIte, Nat.reduceAdd, Nat.reduceMul, Nat.reduceLeDiff, Int.reduceLT, Int.reduceLE, Int.reduceToNat, Int.reduceAdd, Int.reduceNeg, Int.reduceEq]
    refine wgx_fn awake_fn (by simp only [go_sem]) ?_
    simp only [go_sem, Nat.reduceEqDiff, reduceIte, Nat.reduceAdd, Nat.reduceMul, Nat.reduceLeDiff, Int.reduceLT, Int.reduceLE, Int.reduceToNat, Int.reduceAdd, Int.reduceNeg, Int.reduceEq]
    exact fr_set rfl
  have hwc := gw_cell hg2
  have hwl := gw_len hg2
  have hwr : ∀ i ∈ w.refs, i ≠ σ.length := fun i hi => by have := gw_refs hg2 i hi; omega
  have hq : ∀ J : St, (σ ++ [Ob.row [.int .i64 (n : Int), SL true 0 (B.map Ent.row)] 25 0 0] ++ J)[σ.length]? = some (.row [.int .i64 (n : Int), SL true 0 (B.map Ent.row)] 25 0 0) := fun J => get_app_some (get_app0 ..)
  rw [List.length_map] at hwl
  cases tw
  · simp only [go_sem, Nat.reduceEqDiff, reduceIte, Nat.reduceAdd, Nat.reduceMul, Nat.reduceLeDiff, Int.reduceLT, Int.reduceLE, Int.reduceToNat, Int.reduceAdd, Int.reduceNeg, Int.reduceEq]
    exact hfin w L _ _ (get_app0 ..) (nw_push (gw_nw hg2)) b3 hwr
  · cases hlt : decide ((1 : Int) < (L.length : Int))
    · simp only [go_sem, Nat.reduceEqDiff, reduceIte, Nat.reduceAdd, Nat.reduceMul, Nat.reduceLeDiff, Int.reduceLT, Int.reduceLE, Int.reduceToNat, Int.reduceAdd, Int.reduceNeg, Int.reduceEq, hwl, hlt]
      exact hfin w L _ _ (get_app0 ..) (nw_push (gw_nw hg2)) b3 hwr
    · simp only [go_sem, Nat.reduceEqDiff, reduceIte, Nat.reduceAdd, Nat.reduceMul, Nat.reduceLeDiff, Int.reduceLT, Int.reduceLE, Int.reduceToNat, Int.reduceAdd, Int.reduceNeg, Int.reduceEq, hwl, hlt]
      obtain ⟨x0, x1, R, rfl⟩ : ∃ x0 x1 R, L = x0 :: x1 :: R := by
        match L, hlt with
        | x0 :: x1 :: R, _ => exact ⟨x0, x1, R, rfl⟩
        | [x0], h => simp at h
        | [], h => simp at h
      rcases hg2 with ⟨-, h⟩ | ⟨hn0, i, g, rfl, ho, hlo⟩
      · simp at h
      have hil : i < σ.length := (List.getElem?_eq_some_iff.1 ho).1
      have ho' := get_app_some (l := [Ob.row [.int .i64 (n : Int), SL true 0 (B.map Ent.row)] 25 0 0]) ho
      have c1 : ((1 : Int) < ((R.length + 1 + 1 : Nat) : Int)) = True := eq_true (by omega)
      have c0 : ((0 : Int) < ((R.length + 1 + 1 : Nat) : Int)) = True := eq_true (by omega)
      simp only [List.map_cons, List.flatten_cons, ent_def, List.cons_append, List.nil_append] at ho'
      generalize hF : (R.map Ent.row).flatten = F at ho'
      have l8 : (8 ≤ F.length + 1 + 1 + 1 + 1 + 1 + 1 + 1 + 1) = True := eq_true (by omega)
      have l4 : (4 ≤ F.length + 1 + 1 + 1 + 1 + 1 + 1 + 1 + 1) = True := eq_true (by omega)
      have hset : ∀ X : Ob, ((σ ++ [Ob.row [.int .i64 (n : Int), SL true 0 (B.map Ent.row)] 25 0 0]).set i X)[i]? = some X := fun X => List.getElem?_set_self (by simp; omega)
      refine w_drw (by kernel_rfl) ?_
      simp only [go_sem, Nat.reduceEqDiff, reduceIte, Nat.reduceAdd, Nat.reduceMul, Nat.reduceLeDiff, Int.reduceLT, Int.reduceLE, Int.reduceToNat, Int.reduceAdd, Int.reduceNeg, Int.reduceEq, List.length_map, c0, c1, ho', l8, l4]
      refine wgk_ef' (by repeat (first | exact trivial | refine ⟨.inl (by rfl), ?_⟩ | refine ⟨by rfl, ?_⟩ | refine ⟨.inr ⟨by rfl, by rfl⟩, ?_⟩)) (by repeat (first | exact trivial | refine ⟨.inl (by rfl), ?_⟩ | refine ⟨by rfl, ?_⟩ | refine ⟨.inr ⟨by rfl, by rfl⟩, ?_⟩)) ?_
      simp only [go_sem, Nat.reduceEqDiff, reduceIte, Nat.reduceAdd, Nat.reduceMul, Nat.reduceLeDiff, Int.reduceLT, Int.reduceLE, Int.reduceToNat, Int.reduceAdd, Int.reduceNeg, Int.reduceEq, List.length_map, c0, c1, hset, l8, l4]
      refine wgk_ef' (by repeat (first | exact trivial | refine ⟨.inl (by rfl), ?_⟩ | refine ⟨by rfl, ?_⟩ | refine ⟨.inr ⟨by rfl, by rfl⟩, ?_⟩)) (by repeat (first | exact trivial | refine ⟨.inl (by rfl), ?_⟩ | refine ⟨by rfl, ?_⟩ | refine ⟨.inr ⟨by rfl, by rfl⟩, ?_⟩)) ?_
      simp only [go_sem, Nat.reduceEqDiff, reduceIte, Nat.reduceAdd, Nat.reduceMul, Nat.reduceLeDiff, Int.reduceLT, Int.reduceLE, Int.reduceToNat, Int.reduceAdd, Int.reduceNeg, Int.reduceEq]
      refine hfin _ (x1 :: x0 :: R) _ σ.length ?_ (.inl ⟨i, g, 0, by simp, ?_, hlo⟩) ?_ ?_
      · rw [List.getElem?_set_ne (by omega), List.getElem?_set_ne (by omega)]
        exact get_app0 ..
      · rw [List.getElem?_set_self (by simp; omega)]
        simp only [List.map_cons, List.flatten_cons, ent_def, List.cons_append, List.nil_append, hF]
      · intro y hy
        refine b3 y ?_
        simp only [List.mem_cons] at hy ⊢
        rcases hy with h | h | h
        · exact .inr (.inl h)
        · exact .inl h
        · exact .inr (.inr h)
      · intro j hj
        simp [V.refs] at hj
        omega
end Go.Proofs.YticpkkjnajmpoaaGreatDoor.KM
