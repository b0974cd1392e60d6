/- Walks: the texts of baselines; the law BaselineFormats. -/
import Derived.Test.YtlehfgdhebapeaaGreatDoorPn
import Derived.Test.YtlehfgdhebapeaaGreatDoorYu
set_option linter.all false
namespace Go.Proofs.YtlehfgdhebapeaaGreatDoor.KM
open Go
/-! texts -/
def I64 (n : Int) : Prop := -9223372036854775808 ≤ n ∧ n ≤ 9223372036854775807
theorem itoa_some {n : Int} (h : I64 n) : itoaS [.int .i64 n] = some (.str (itoaE n)) := by
  simp only [itoaS]
  rw [if_pos (show -9223372036854775808 ≤ n ∧ n ≤ 9223372036854775807 from h)]
theorem decE_len : ∀ k u, (decE k u).length ≤ k
  | 0, _ => by simp [decE]
  | k + 1, u => by
    have := decE_len k (u / 10)
    unfold decE
    split
    · simp
    · simp; omega
theorem itoa_len (n : Int) : (itoaE n).length ≤ 21 := by
  unfold itoaE
  split
  · have := decE_len 20 n.natAbs
    simp; omega
  · have := decE_len 20 n.toNat
    omega
def keyText (k : Key) : List UInt8 := 115 :: 105 :: 116 :: 101 :: 32 :: (itoaE k.2.2 ++ 32 :: (k.1 ++ 32 :: (k.2.1 ++ [10])))
def headText (e : Ent) : List UInt8 := 101 :: 110 :: 116 :: 114 :: 121 :: 32 :: (itoaE e.kind ++ 32 :: (itoaE e.seen ++ 32 :: (itoaE e.missed ++ [10])))
def entText (e : Ent) : List UInt8 := headText e ++ (e.sites.map keyText).flatten
def firstText (n : Int) : List UInt8 := 98 :: 97 :: 115 :: 101 :: 108 :: 105 :: 110 :: 101 :: 32 :: (itoaE n ++ [10])
def baseText (n : Int) (l : List Ent) : List UInt8 := firstText n ++ (l.map entText).flatten
def EntOk (e : Ent) : Prop := I64 e.kind ∧ I64 e.seen ∧ I64 e.missed ∧ ∀ k ∈ e.sites, I64 k.2.2
def TextOk (n : Int) (l : List Ent) : Prop := I64 n ∧ (∀ e ∈ l, EntOk e ∧ e.sites.length ≤ 1000000000) ∧ l.length ≤ 1000000000 ∧ (baseText n l).length ≤ 1000000000
theorem format_fn (z : Bool) (t : Nat) (n : Int) (l : List Ent) (hok : TextOk n l) : Fn TT PT 62 [.agg [.int .i64 n, SL z t (l.map Ent.row)]] (.str (baseText n l)) := by
  obtain ⟨hn, hl, hll, hsz⟩ := hok
  have hi1 := itoa_len n
  obtain ⟨s1, u1, th1, b1, c1, l1, f1⟩ := write_th (s := [.row [.int .i64 n, SL z t (l.map Ent.row)] 61 0 0, .row [.nilp, .nils] 84 0 0]) (b := 1) (u := .nils) (l := []) (firstText n) ⟨.nilp, rfl, .inl rfl, gw_nil⟩ (by
    intro ob hob i hi
    simp only [List.mem_cons, List.not_mem_nil, or_false] at hob
    rcases hob with rfl | rfl
    · simp [Ob.refs, refsL, V.refs, rowB_refs (sl_row z t (l.map Ent.row))] at hi
    · simp [Ob.refs, refsL, V.refs] at hi) (by simp [firstText]; omega)
  have q0 := f1 0 (by omega) (by simp [V.refs]) (by simp)
  simp only [List.nil_append] at b1
  refine Fn_go T62 rfl ?_
  simp only [go_sem, Nat.reduceEqDiff, reduceIte, Nat.reduceAdd, Nat.reduceMul, Nat.reduceLeDiff, Int.reduceLT, Int.reduceLE, Int.reduceToNat, Int.reduceAdd, Int.reduceNeg, Int.reduceEq]
  refine wx_pr P70 (by simp only [go_sem]) (itoa_some hn) ?_
  simp (maxSteps := 2000000) (disch := omega) only [go_sem, Nat.reduceEqDiff, reduceIte, Nat.reduceAdd, Nat.reduceMul, Nat.reduceLeDiff, Int.reduceLT, Int.reduceLE, Int.reduceToNat, Int.reduceAdd, Int.reduceNeg, Int.reduceEq, ite_le]
  refine wx_th th1 ?_
  simp only [go_sem, Nat.reduceEqDiff, reduceIte, Nat.reduceAdd, Nat.reduceMul, Nat.reduceLeDiff, Int.reduceLT, Int.reduceLE, Int.reduceToNat, Int.reduceAdd, Int.reduceNeg, Int.reduceEq, q0, List.length_map]
  refine loop_w (α := Nat × V × St × List UInt8) (fun a => l.length - a.1) (fun a => [(3, .ptr 1 0 0), (15, SL z t (l.map Ent.row)), (16, .int .i64 l.length), (17, .int .i64 a.1)]) (fun a => a.2.2.1)
    (fun a => a.1 ≤ l.length ∧ BL a.2.2.1 1 a.2.1 a.2.2.2 ∧ Cl a.2.2.1 ∧ a.2.2.2 ++ ((l.drop a.1).map entText).flatten = baseText n l) ?_ (0, u1, s1, firstText n) ⟨by simp, b1, c1, by simp [baseText]⟩
  rintro ⟨i, u, s, T⟩ ⟨hi, hb, hc, ht⟩ ih
  simp only at hi hb hc ht ih
  refine w_rep (by delta lp62_1; exact rfl) ?_
  rcases Nat.lt_or_ge i l.length with h | h
  · obtain ⟨x, hx, hd, hm⟩ := at_some h
    obtain ⟨⟨hk1, hk2, hk3, hk4⟩, hk5⟩ := hl x hm
    rw [hd, List.map_cons, List.flatten_cons, entText] at ht
    have hT : T.length + (headText x).length + ((x.sites.map keyText).flatten).length + (((l.drop (i + 1)).map entText).flatten).length ≤ 1000000000 := by
      rw [← ht] at hsz
      simp only [List.length_append] at hsz
      omega
    have hj1 := itoa_len x.kind
    have hj2 := itoa_len x.seen
    have hj3 := itoa_len x.missed
    obtain ⟨s2, u2, th2, b2, c2, l2, f2⟩ := write_th (headText x) (bl_push (J := [.row x.row 131 0 0]) hb) (cl_row hc (ent_row x)) (by omega)
    have q2 := f2 s.length (by have := lt_of_get hb.choose_spec.1; omega) (fun hm => by have := bl_refs hb _ hm; omega) (by simp)
    rw [get_app0] at q2
    simp only [ent_def, List.getElem?_cons_zero] at th2 q2
    simp only [go_sem, Nat.reduceEqDiff, reduceIte, Nat.reduceAdd, Nat.reduceMul, Nat.reduceLeDiff, Int.reduceLT, Int.reduceLE, Int.reduceToNat, Int.reduceAdd, Int.reduceNeg, Int.reduceEq, lt_t h, List.getElem?_map, hx]
    refine w_drw (by kernel_rfl) ?_
    simp only [go_sem, Nat.reduceEqDiff, reduceIte, Nat.reduceAdd, Nat.reduceMul, Nat.reduceLeDiff, Int.reduceLT, Int.reduceLE, Int.reduceToNat, Int.reduceAdd, Int.reduceNeg, Int.reduceEq]
    refine wgx_pr P70 (by simp only [go_sem]) (itoa_some hk1) ?_
    simp (maxSteps := 2000000) (disch := omega) only [go_sem, Nat.reduceEqDiff, reduceIte, Nat.reduceAdd, Nat.reduceMul, Nat.reduceLeDiff, Int.reduceLT, Int.reduceLE, Int.reduceToNat, Int.reduceAdd, Int.reduceNeg, Int.reduceEq, ite_le]
    refine wgx_pr P70 (by simp only [go_sem]) (itoa_some hk2) ?_
    simp (maxSteps := 2000000) (disch := omega) only [go_sem, Nat.reduceEqDiff, reduceIte, Nat.reduceAdd, Nat.reduceMul, Nat.reduceLeDiff, Int.reduceLT, Int.reduceLE, Int.reduceToNat, Int.reduceAdd, Int.reduceNeg, Int.reduceEq, ite_le]
    refine wgx_pr P70 (by simp only [go_sem]) (itoa_some hk3) ?_
    simp (maxSteps := 2000000) (disch := omega) only [go_sem, Nat.reduceEqDiff, reduceIte, Nat.reduceAdd, Nat.reduceMul, Nat.reduceLeDiff, Int.reduceLT, Int.reduceLE, Int.reduceToNat, Int.reduceAdd, Int.reduceNeg, Int.reduceEq, ite_le]
    refine wgx_th th2 (by repeat (first | exact trivial | refine ⟨.inl (by rfl), ?_⟩ | refine ⟨by rfl, ?_⟩ | refine ⟨.inr ⟨by rfl, by rfl⟩, ?_⟩)) (by repeat (first | exact trivial | refine ⟨.inl (by rfl), ?_⟩ | refine ⟨by rfl, ?_⟩ | refine ⟨.inr ⟨by rfl, by rfl⟩, ?_⟩)) ?_
    simp only [go_sem, Nat.reduceEqDiff, reduceIte, Nat.reduceAdd, Nat.reduceMul, Nat.reduceLeDiff, Int.reduceLT, Int.reduceLE, Int.reduceToNat, Int.reduceAdd, Int.reduceNeg, Int.reduceEq, q2]
    refine loop_w (α := Nat × V × St × List UInt8) (fun a => x.sites.length - a.1) (fun a => [(3, .ptr 1 0 0), (15, SL z t (l.map Ent.row)), (16, .int .i64 l.length), (17, .int .i64 i), (38, x.sl), (39, .int .i64 x.sites.length), (40, .int .i64 a.1)]) (fun a => a.2.2.1)
      (fun a => a.1 ≤ x.sites.length ∧ BL a.2.2.1 1 a.2.1 a.2.2.2 ∧ Cl a.2.2.1 ∧ a.2.2.2 ++ (((x.sites.drop a.1).map keyText).flatten ++ ((l.drop (i + 1)).map entText).flatten) = baseText n l) ?_ (0, u2, s2, T ++ headText x) ⟨by simp, b2, c2, by simp only [List.drop_zero]; rw [← ht]; simp only [List.append_assoc]⟩
    rintro ⟨j, u3, s3, T3⟩ ⟨hj, hb3, hc3, ht3⟩ ih3
    simp only at hj hb3 hc3 ht3 ih3
    refine w_rep (by delta lp62_0; exact rfl) ?_
    rcases Nat.lt_or_ge j x.sites.length with h3 | h3
    · obtain ⟨y, hy, hd3, hm3⟩ := at_some h3
      have hy4 := hk4 y hm3
      rw [hd3, List.map_cons, List.flatten_cons] at ht3
      have hT3 : T3.length + (keyText y).length ≤ 1000000000 := by
        rw [← ht3] at hsz
        simp only [List.length_append] at hsz
        omega
      have hj4 := itoa_len y.2.2
      have hky : (keyText y).length = (itoaE y.2.2).length + y.1.length + y.2.1.length + 8 := by simp [keyText]; omega
      obtain ⟨s4, u4, th4, b4, c4, l4, f4⟩ := write_th (keyText y) (bl_push (J := [.row (krow y) 52 0 0]) hb3) (cl_row hc3 rfl) (by omega)
      simp only [krow] at th4
      simp only [go_sem, Nat.reduceEqDiff, reduceIte, Nat.reduceAdd, Nat.reduceMul, Nat.reduceLeDiff, Int.reduceLT, Int.reduceLE, Int.reduceToNat, Int.reduceAdd, Int.reduceNeg, Int.reduceEq, lt_t h3, ents_iad, List.getElem?_map, hy, krow]
      refine w_drw (by kernel_rfl) ?_
      simp only [go_sem, Nat.reduceEqDiff, reduceIte, Nat.reduceAdd, Nat.reduceMul, Nat.reduceLeDiff, Int.reduceLT, Int.reduceLE, Int.reduceToNat, Int.reduceAdd, Int.reduceNeg, Int.reduceEq]
      refine wgx_pr P70 (by simp only [go_sem]) (itoa_some hy4) ?_
      simp (maxSteps := 2000000) (disch := omega) only [go_sem, Nat.reduceEqDiff, reduceIte, Nat.reduceAdd, Nat.reduceMul, Nat.reduceLeDiff, Int.reduceLT, Int.reduceLE, Int.reduceToNat, Int.reduceAdd, Int.reduceNeg, Int.reduceEq, ite_le]
      refine wgx_th th4 (by repeat (first | exact trivial | refine ⟨.inl (by rfl), ?_⟩ | refine ⟨by rfl, ?_⟩ | refine ⟨.inr ⟨by rfl, by rfl⟩, ?_⟩)) (by repeat (first | exact trivial | refine ⟨.inl (by rfl), ?_⟩ | refine ⟨by rfl, ?_⟩ | refine ⟨.inr ⟨by rfl, by rfl⟩, ?_⟩)) ?_
      simp only [go_sem, Nat.reduceEqDiff, reduceIte, Nat.reduceAdd, Nat.reduceMul, Nat.reduceLeDiff, Int.reduceLT, Int.reduceLE, Int.reduceToNat, Int.reduceAdd, Int.reduceNeg, Int.reduceEq, inc64 (show j < 9223372036854775807 by omega)]
      refine W_keep (ih3 (j + 1, u4, s4, T3 ++ keyText y) (by simp; omega) ⟨by simp; omega, b4, c4, ?_⟩) rfl
      simp only
      rw [← ht3]
      simp only [List.append_assoc]
    · simp only [go_sem, Nat.reduceEqDiff, reduceIte, Nat.reduceAdd, Nat.reduceMul, Nat.reduceLeDiff, Int.reduceLT, Int.reduceLE, Int.reduceToNat, Int.reduceAdd, Int.reduceNeg, Int.reduceEq, lt_f h3, inc64 (show i < 9223372036854775807 by omega)]
      refine W_keep (ih (i + 1, u3, s3, T3) (by simp; omega) ⟨by simp; omega, hb3, hc3, ?_⟩) rfl
      simp only
      rw [← ht3, List.drop_eq_nil_of_le h3]
      simp
  · rw [List.drop_eq_nil_of_le h] at ht
    simp only [List.map_nil, List.flatten_nil, List.append_nil] at ht
    obtain ⟨s5, hs5⟩ := bl_str hb
    simp only [go_sem, Nat.reduceEqDiff, reduceIte, Nat.reduceAdd, Nat.reduceMul, Nat.reduceLeDiff, Int.reduceLT, Int.reduceLE, Int.reduceToNat, Int.reduceAdd, Int.reduceNeg, Int.reduceEq, lt_f h]
    refine wx_call (.spec T38 rfl rfl hs5) ?_
    simp only [go_sem, Nat.reduceEqDiff, reduceIte, Nat.reduceAdd, Nat.reduceMul, Nat.reduceLeDiff, Int.reduceLT, Int.reduceLE, Int.reduceToNat, Int.reduceAdd, Int.reduceNeg, Int.reduceEq]
    exact fr_eq rfl (by rw [ht])
theorem rformat_fn (z : Bool) (t : Nat) (n : Int) (l : List Ent) (hok : TextOk n l) : Fn TT PT 66 [.agg [.int .i64 n, SL z t (l.map Ent.row)]] (.str (baseText n l)) := by
  obtain ⟨hn, hl, hll, hsz⟩ := hok
  have hi1 := itoa_len n
  refine Fn_go T66 rfl ?_
  simp only [go_sem, Nat.reduceEqDiff, reduceIte, Nat.reduceAdd, Nat.reduceMul, Nat.reduceLeDiff, Int.reduceLT, Int.reduceLE, Int.reduceToNat, Int.reduceAdd, Int.reduceNeg, Int.reduceEq]
  refine wx_pr P70 (by simp only [go_sem]) (itoa_some hn) ?_
  simp (maxSteps := 2000000) (disch := omega) only [go_sem, Nat.reduceEqDiff, reduceIte, Nat.reduceAdd, Nat.reduceMul, Nat.reduceLeDiff, Int.reduceLT, Int.reduceLE, Int.reduceToNat, Int.reduceAdd, Int.reduceNeg, Int.reduceEq, ite_le]
  simp only [go_sem, Nat.reduceEqDiff, reduceIte, Nat.reduceAdd, Nat.reduceMul, Nat.reduceLeDiff, Int.reduceLT, Int.reduceLE, Int.reduceToNat, Int.reduceAdd, Int.reduceNeg, Int.reduceEq, List.length_map]
  refine loop_w (α := Nat × St × List UInt8) (fun a => l.length - a.1) (fun a => [(3, .str a.2.2), (14, SL z t (l.map Ent.row)), (15, .int .i64 l.length), (16, .int .i64 a.1)]) (fun a => a.2.1)
    (fun a => a.1 ≤ l.length ∧ a.2.2 ++ ((l.drop a.1).map entText).flatten = baseText n l) ?_ (0, _, firstText n) ⟨by simp, by simp [baseText]⟩
  rintro ⟨i, s, T⟩ ⟨hi, ht⟩ ih
  simp only at hi ht ih
  refine w_rep (by delta lp66_1; exact rfl) ?_
  rcases Nat.lt_or_ge i l.length with h | h
  · obtain ⟨x, hx, hd, hm⟩ := at_some h
    obtain ⟨⟨hk1, hk2, hk3, hk4⟩, hk5⟩ := hl x hm
    rw [hd, List.map_cons, List.flatten_cons, entText] at ht
    have hT : T.length + (headText x).length + ((x.sites.map keyText).flatten).length + (((l.drop (i + 1)).map entText).flatten).length ≤ 1000000000 := by
      rw [← ht] at hsz
      simp only [List.length_append] at hsz
      omega
    have hj1 := itoa_len x.kind
    have hj2 := itoa_len x.seen
    have hj3 := itoa_len x.missed
    simp only [go_sem, Nat.reduceEqDiff, reduceIte, Nat.reduceAdd, Nat.reduceMul, Nat.reduceLeDiff, Int.reduceLT, Int.reduceLE, Int.reduceToNat, Int.reduceAdd, Int.reduceNeg, Int.reduceEq, lt_t h, List.getElem?_map, hx]
    refine w_drw (by kernel_rfl) ?_
    simp only [go_sem, Nat.reduceEqDiff, reduceIte, Nat.reduceAdd, Nat.reduceMul, Nat.reduceLeDiff, Int.reduceLT, Int.reduceLE, Int.reduceToNat, Int.reduceAdd, Int.reduceNeg, Int.reduceEq]
    refine wgx_pr P70 (by simp only [go_sem]) (itoa_some hk1) ?_
    simp (maxSteps := 2000000) (disch := omega) only [go_sem, Nat.reduceEqDiff, reduceIte, Nat.reduceAdd, Nat.reduceMul, Nat.reduceLeDiff, Int.reduceLT, Int.reduceLE, Int.reduceToNat, Int.reduceAdd, Int.reduceNeg, Int.reduceEq, ite_le]
    refine wgx_pr P70 (by simp only [go_sem]) (itoa_some hk2) ?_
    simp (maxSteps := 2000000) (disch := omega) only [go_sem, Nat.reduceEqDiff, reduceIte, Nat.reduceAdd, Nat.reduceMul, Nat.reduceLeDiff, Int.reduceLT, Int.reduceLE, Int.reduceToNat, Int.reduceAdd, Int.reduceNeg, Int.reduceEq, ite_le]
    refine wgx_pr P70 (by simp only [go_sem]) (itoa_some hk3) ?_
    have hhl : (headText x).length = (itoaE x.kind).length + (itoaE x.seen).length + (itoaE x.missed).length + 9 := by simp [headText]; omega
    simp only [go_sem, Nat.reduceEqDiff, reduceIte, Nat.reduceAdd, Nat.reduceMul, Nat.reduceLeDiff, Int.reduceLT, Int.reduceLE, Int.reduceToNat, Int.reduceAdd, Int.reduceNeg, Int.reduceEq]
    rw [if_pos (by omega)]
    simp only [go_sem, Nat.reduceEqDiff, reduceIte, Nat.reduceAdd, Nat.reduceMul, Nat.reduceLeDiff, Int.reduceLT, Int.reduceLE, Int.reduceToNat, Int.reduceAdd, Int.reduceNeg, Int.reduceEq]
    rw [if_pos (by omega)]
    simp only [go_sem, Nat.reduceEqDiff, reduceIte, Nat.reduceAdd, Nat.reduceMul, Nat.reduceLeDiff, Int.reduceLT, Int.reduceLE, Int.reduceToNat, Int.reduceAdd, Int.reduceNeg, Int.reduceEq]
    rw [if_pos (by omega)]
    simp only [go_sem, Nat.reduceEqDiff, reduceIte, Nat.reduceAdd, Nat.reduceMul, Nat.reduceLeDiff, Int.reduceLT, Int.reduceLE, Int.reduceToNat, Int.reduceAdd, Int.reduceNeg, Int.reduceEq]
    refine loop_w (α := Nat × St × List UInt8) (fun a => x.sites.length - a.1) (fun a => [(3, .str a.2.2), (14, SL z t (l.map Ent.row)), (15, .int .i64 l.length), (16, .int .i64 i), (38, x.sl), (39, .int .i64 x.sites.length), (40, .int .i64 a.1)]) (fun a => a.2.1)
      (fun a => a.1 ≤ x.sites.length ∧ a.2.2 ++ (((x.sites.drop a.1).map keyText).flatten ++ ((l.drop (i + 1)).map entText).flatten) = baseText n l) ?_ (0, _, T ++ headText x) ⟨by simp, by simp only [List.drop_zero]; rw [← ht]; simp only [List.append_assoc]⟩
    rintro ⟨j, s3, T3⟩ ⟨hj, ht3⟩ ih3
    simp only at hj ht3 ih3
    refine w_rep (by delta lp66_0; exact rfl) ?_
    rcases Nat.lt_or_ge j x.sites.length with h3 | h3
    · obtain ⟨y, hy, hd3, hm3⟩ := at_some h3
      have hy4 := hk4 y hm3
      rw [hd3, List.map_cons, List.flatten_cons] at ht3
      have hT3 : T3.length + (keyText y).length ≤ 1000000000 := by
        rw [← ht3] at hsz
        simp only [List.length_append] at hsz
        omega
      have hj4 := itoa_len y.2.2
      have hky : (keyText y).length = (itoaE y.2.2).length + y.1.length + y.2.1.length + 8 := by simp [keyText]; omega
      simp only [go_sem, Nat.reduceEqDiff, reduceIte, Nat.reduceAdd, Nat.reduceMul, Nat.reduceLeDiff, Int.reduceLT, Int.reduceLE, Int.reduceToNat, Int.reduceAdd, Int.reduceNeg, Int.reduceEq, lt_t h3, ents_iad, List.getElem?_map, hy, krow]
      refine w_drw (by kernel_rfl) ?_
      simp only [go_sem, Nat.reduceEqDiff, reduceIte, Nat.reduceAdd, Nat.reduceMul, Nat.reduceLeDiff, Int.reduceLT, Int.reduceLE, Int.reduceToNat, Int.reduceAdd, Int.reduceNeg, Int.reduceEq]
      refine wgx_pr P70 (by simp only [go_sem]) (itoa_some hy4) ?_
      simp only [go_sem, Nat.reduceEqDiff, reduceIte, Nat.reduceAdd, Nat.reduceMul, Nat.reduceLeDiff, Int.reduceLT, Int.reduceLE, Int.reduceToNat, Int.reduceAdd, Int.reduceNeg, Int.reduceEq]
      rw [if_pos (by omega)]
      simp only [go_sem, Nat.reduceEqDiff, reduceIte, Nat.reduceAdd, Nat.reduceMul, Nat.reduceLeDiff, Int.reduceLT, Int.reduceLE, Int.reduceToNat, Int.reduceAdd, Int.reduceNeg, Int.reduceEq]
      rw [if_pos (by omega)]
      simp only [go_sem, Nat.reduceEqDiff, reduceIte, Nat.reduceAdd, Nat.reduceMul, Nat.reduceLeDiff, Int.reduceLT, Int.reduceLE, Int.reduceToNat, Int.reduceAdd, Int.reduceNeg, Int.reduceEq]
      rw [if_pos (by omega)]
      simp only [go_sem, Nat.reduceEqDiff, reduceIte, Nat.reduceAdd, Nat.reduceMul, Nat.reduceLeDiff, Int.reduceLT, Int.reduceLE, Int.reduceToNat, Int.reduceAdd, Int.reduceNeg, Int.reduceEq]
      rw [if_pos (by omega)]
      simp only [go_sem, Nat.reduceEqDiff, reduceIte, Nat.reduceAdd, Nat.reduceMul, Nat.reduceLeDiff, Int.reduceLT, Int.reduceLE, Int.reduceToNat, Int.reduceAdd, Int.reduceNeg, Int.reduceEq]
      rw [if_pos (by omega)]
      simp only [go_sem, Nat.reduceEqDiff, reduceIte, Nat.reduceAdd, Nat.reduceMul, Nat.reduceLeDiff, Int.reduceLT, Int.reduceLE, Int.reduceToNat, Int.reduceAdd, Int.reduceNeg, Int.reduceEq]
      rw [if_pos (by omega)]
      simp only [go_sem, Nat.reduceEqDiff, reduceIte, Nat.reduceAdd, Nat.reduceMul, Nat.reduceLeDiff, Int.reduceLT, Int.reduceLE, Int.reduceToNat, Int.reduceAdd, Int.reduceNeg, Int.reduceEq]
      rw [if_pos (by omega)]
      simp only [go_sem, Nat.reduceEqDiff, reduceIte, Nat.reduceAdd, Nat.reduceMul, Nat.reduceLeDiff, Int.reduceLT, Int.reduceLE, Int.reduceToNat, Int.reduceAdd, Int.reduceNeg, Int.reduceEq, inc64 (show j < 9223372036854775807 by omega)]
      refine W_keep (ih3 (j + 1, _, T3 ++ keyText y) (by simp; omega) ⟨by simp; omega, ?_⟩) rfl
      simp only
      rw [← ht3]
      simp only [List.append_assoc]
    · simp only [go_sem, Nat.reduceEqDiff, reduceIte, Nat.reduceAdd, Nat.reduceMul, Nat.reduceLeDiff, Int.reduceLT, Int.reduceLE, Int.reduceToNat, Int.reduceAdd, Int.reduceNeg, Int.reduceEq, lt_f h3, inc64 (show i < 9223372036854775807 by omega)]
      refine W_keep (ih (i + 1, s3, T3) (by simp; omega) ⟨by simp; omega, ?_⟩) rfl
      simp only
      rw [← ht3, List.drop_eq_nil_of_le h3]
      simp
  · rw [List.drop_eq_nil_of_le h] at ht
    simp only [List.map_nil, List.flatten_nil, List.append_nil] at ht
    simp only [go_sem, Nat.reduceEqDiff, reduceIte, Nat.reduceAdd, Nat.reduceMul, Nat.reduceLeDiff, Int.reduceLT, Int.reduceLE, Int.reduceToNat, Int.reduceAdd, Int.reduceNeg, Int.reduceEq, lt_f h]
    exact fr_eq rfl (by rw [ht])
theorem flat_len_le {α : Type} (f : α → List UInt8) (k : Nat) : ∀ l : List α, (∀ x ∈ l, (f x).length ≤ k) → ((l.map f).flatten).length ≤ l.length * k
  | [], _ => by simp
  | x :: l, h => by
    have h1 := h x List.mem_cons_self
    have h2 := flat_len_le f k l fun y hy => h y (List.mem_cons_of_mem _ hy)
    simp only [List.map_cons, List.flatten_cons, List.length_append, List.length_cons, Nat.succ_mul]
    omega
end Go.Proofs.YtlehfgdhebapeaaGreatDoor.KM
