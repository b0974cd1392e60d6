/- Walks: bytes of baselines: the reference's Encode. -/
import Derived.Test.YtikkmcchhddfoaaGreatDoorSd
set_option linter.all false
namespace Go.Proofs.YtikkmcchhddfoaaGreatDoor.KM
open Go
/-- bytes in a register -/
structure RB (s : St) (lo : Nat) (w : V) (bs : List Int) (B : Ob) : Prop where
  cl : Cl s
  g : GW s 1 5 lo w (bI bs)
  old : s[0]? = some B
theorem rb_step {s : St} {lo f : Nat} {w : V} {bs bs' : List Int} {B : Ob} {rest : List V} (h : RB s lo w bs B) (hlo : 1 ≤ lo) (hr : rest.all setC = true) (hF : ∀ z t, ∃ u σ0, FnO TT PT f (SL z t (bI bs) :: rest) u σ0 ∧ (GW σ0 1 5 0 u (bI bs') ∧ Cl σ0)) :
    ∃ w' s2, CallS TT PT f (w :: rest) s w' s2 ∧ RB s2 s.length w' bs' B ∧ s.length ≤ s2.length ∧ 1 ≤ s.length ∧ (∀ j, j ∉ w.refs → j < s.length → s2[j]? = s[j]?) ∧ ∀ i ∈ w'.refs, s.length ≤ i := by
  obtain ⟨w', s2, hc, hg, hcl, hl, hk⟩ := gs_step h.g h.cl hr hF
  have h0 : 0 < s.length := (List.getElem?_eq_some_iff.1 h.old).1
  refine ⟨w', s2, hc, ⟨hcl, hg, (hk 0 (fun hm => ?_) h0).trans h.old⟩, hl, h0, hk, fun i hi => (gw_named hg (bI_refs bs') i hi).1⟩
  have := (gw_named h.g (bI_refs bs) 0 hm).1
  omega
theorem rb_new {s : St} {lo : Nat} {w : V} {bs : List Int} {B : Ob} (h : RB s lo w bs B) (r : List V) (t : Nat) (hr : r.all V.rowB = true) : RB (s ++ [.row r t 0 0]) lo w bs B ∧ s.length ∉ w.refs :=
  ⟨⟨cl_row h.cl hr, gw_push h.g, get_app_some h.old⟩, fun hm => by have := gw_refs h.g _ hm; omega⟩
/-- a pure function that gives bytes, of values that name nothing -/
theorem gs_set {s : St} {f : Nat} {args : List V} {bs' : List Int} (hc : Cl s) (ha : args.all setC = true) (hF : ∃ u σ0, FnO TT PT f args u σ0 ∧ (GW σ0 1 5 0 u (bI bs') ∧ Cl σ0)) :
    ∃ w' s2, CallS TT PT f args s w' s2 ∧ GW s2 1 5 s.length w' (bI bs') ∧ Cl s2 ∧ s.length ≤ s2.length ∧ ∀ j, j < s.length → s2[j]? = s[j]? := by
  obtain ⟨u, σ0, hf, hg, hcl⟩ := hF
  refine ⟨_, _, .own (over_set ha) hf, ?_⟩
  rw [own_nil (setL_refs ha)]
  exact ⟨gw_own hg (bI_row bs') rfl, cl_join hc hcl, by simp, fun j hj => List.getElem?_append_left hj⟩
theorem rtext_own (z : Bool) (t : Nat) (bs : List Int) (c : List UInt8) (hl : bs.length + c.length ≤ 1000000) (hn : bs ≠ []) :
    ∃ u σ0, FnO TT PT 76 [SL z t (bI bs), .str c] u σ0 ∧ (GW σ0 1 5 0 u (bI (bs ++ (varsL [(c.length : Int)] ++ strI c))) ∧ Cl σ0) := by
  refine fno_ex T76 rfl ?_ (fun v s h => ⟨h.2, gw_okres h.1, gw_refs h.1⟩)
  obtain ⟨u, σ0, hf, hg, hcl, -, -⟩ := gs_set (s := []) cl_nil (by simp only [go_sem]) (rpi_own z t bs c.length (by omega) hn)
  have hv := varL_len c.length
  obtain ⟨w', s', e1, g1, l1, -, f1⟩ := gw_app (bytes := 1) (y := .lst 1 (bI (strI c))) (ys := bI (strI c)) hg (Nat.zero_le _) rfl (by omega) (bI_len _) (bI_len _) (by rw [bI_n, bI_n]; simp [strI]; omega)
  have hc2 := gw_app_cl hg rfl e1 (bI_refs _) (bI_refs _) hcl
  rw [← bI_app] at g1
  simp only [go_sem, Nat.reduceEqDiff, reduceIte, Nat.reduceAdd, Nat.reduceMul, Nat.reduceLeDiff, Int.reduceLT, Int.reduceLE, Int.reduceToNat, Int.reduceAdd, Int.reduceNeg, Int.reduceEq]
  refine wx_call hf ?_
  simp only [go_sem, Nat.reduceEqDiff, reduceIte, Nat.reduceAdd, Nat.reduceMul, Nat.reduceLeDiff, Int.reduceLT, Int.reduceLE, Int.reduceToNat, Int.reduceAdd, Int.reduceNeg, Int.reduceEq]
  rw [apps_str, e1]
  simp only [go_sem, Nat.reduceEqDiff, reduceIte, Nat.reduceAdd, Nat.reduceMul, Nat.reduceLeDiff, Int.reduceLT, Int.reduceLE, Int.reduceToNat, Int.reduceAdd, Int.reduceNeg, Int.reduceEq]
  exact ⟨_, rfl, by rw [← List.append_assoc, show varsL [(c.length : Int)] = varL c.length from by simp [varsL]]; exact g1, hc2⟩
theorem rnums (ns : List Int) (hnl : ns.length ≤ 100) (A : V) (B C : Int) (Bo X : Ob) (o : Nat) (k : List It) (Q : Env → St → Prop) (bs : List Int) (hb : bs ≠ []) (hbl : bs.length ≤ 1000000) (s : St) (w : V) (lo : Nat) (hlo : 1 ≤ lo) (hE : RB s lo w bs Bo) (hx : s[o]? = some X) (hno : o ∉ w.refs)
    (h : ∀ s' w' lo', 1 ≤ lo' → RB s' lo' w' (bs ++ varsL ns) Bo → s'[o]? = some X → W TT PT k [(4, w'), (6, .ptr o 0 0), (27, A), (28, .int .i64 B), (29, .int .i64 C), (42, .lst 1 (iRows ns)), (43, .int .i64 ns.length), (44, .int .i64 ns.length)] s' Q) :
    W TT PT (.l [4, 6, 27, 28, 29, 42, 43, 44] lp33_0 :: .b 2 :: k) [(4, w), (6, .ptr o 0 0), (27, A), (28, .int .i64 B), (29, .int .i64 C), (42, .lst 1 (iRows ns)), (43, .int .i64 ns.length), (44, .int .i64 0)] s Q := by
  refine loop_w (α := Nat × St × V × Nat × List Int) (fun a => ns.length - a.1) (fun a => [(4, a.2.2.1), (6, .ptr o 0 0), (27, A), (28, .int .i64 B), (29, .int .i64 C), (42, .lst 1 (iRows ns)), (43, .int .i64 ns.length), (44, .int .i64 a.1)]) (fun a => a.2.1)
    (fun a => a.1 ≤ ns.length ∧ RB a.2.1 a.2.2.2.1 a.2.2.1 a.2.2.2.2 Bo ∧ 1 ≤ a.2.2.2.1 ∧ a.2.1[o]? = some X ∧ o ∉ a.2.2.1.refs ∧ a.2.2.2.2 ≠ [] ∧ a.2.2.2.2.length ≤ 1000000 + 11 * a.1 ∧ a.2.2.2.2 ++ varsL (ns.drop a.1) = bs ++ varsL ns) ?_ (0, s, w, lo, bs) ⟨by simp, hE, hlo, hx, hno, hb, by simpa using hbl, rfl⟩
  rintro ⟨i, s1, w1, lo1, b1⟩ ⟨hi, hE1, hlo1, hx1, hno1, hb1, hlen, hd⟩ ih
  simp only at hi hE1 hlo1 hx1 hno1 hb1 hlen hd ih
  refine w_rep (by delta lp33_0; exact rfl) ?_
  rcases Nat.lt_or_ge i ns.length with hlt | hge
  · obtain ⟨n, hn, hdr, -⟩ := at_some hlt
    have hget : (iRows ns)[i]? = some [.int .i64 n] := by unfold iRows; rw [List.getElem?_map, hn]; rfl
    have hvl := varL_len n
    have hol : o < s1.length := (List.getElem?_eq_some_iff.1 hx1).1
    obtain ⟨w', s2, p1, p2, p3, p4, p5, p6⟩ := rb_step hE1 hlo1 (rest := [.int .i64 n]) rfl (fun z t => rpi_own z t b1 n (by omega) hb1)
    simp only [go_sem, Nat.reduceEqDiff, reduceIte, Nat.reduceAdd, Nat.reduceMul, Nat.reduceLeDiff, Int.reduceLT, Int.reduceLE, Int.reduceToNat, Int.reduceAdd, Int.reduceNeg, Int.reduceEq, lt_t hlt, hget]
    refine wx_call p1 ?_
    simp only [go_sem, Nat.reduceEqDiff, reduceIte, Nat.reduceAdd, Nat.reduceMul, Nat.reduceLeDiff, Int.reduceLT, Int.reduceLE, Int.reduceToNat, Int.reduceAdd, Int.reduceNeg, Int.reduceEq, inc64 (show i < 9223372036854775807 by omega)]
    refine W_keep (ih (i + 1, s2, w', s1.length, b1 ++ varL n) (by simp; omega) ⟨by simp; omega, p2, p4, (p5 o hno1 hol).trans hx1, fun hm => by have := p6 o hm; omega, by simp [hb1], by simp; omega, ?_⟩) rfl
    simp only
    rw [← hd, hdr]
    simp [varsL]
  · obtain rfl : i = ns.length := by omega
    rw [List.drop_eq_nil_of_le hge] at hd
    have hd : b1 = bs ++ varsL ns := by simpa [varsL] using hd
    subst hd
    simp only [go_sem, Nat.reduceEqDiff, reduceIte, Nat.reduceAdd, Nat.reduceMul, Nat.reduceLeDiff, Int.reduceLT, Int.reduceLE, Int.reduceToNat, Int.reduceAdd, Int.reduceNeg, Int.reduceEq, lt_f hge]
    exact h s1 w1 lo1 hlo1 hE1 hx1
theorem rd_ok1 {s : St} {ob k : Nat} {a b c : V} {e : Env} {x : Nat} (q : s[ob]? = some (.row [a, b, c] k 0 0)) (hb : b.cellB = true) (he : e.get x = .ptr ob 0 1 := by rfl) : evalOp (.load 1 true (.t x)) e s = some (b, s) := by
  simp only [evalOp, src, he, loadV, q]
  rfl
theorem esites (x : Ent) (hx : okV x) (A : V) (B C : Int) (Bo : Ob) (k : List It) (Q : Env → St → Prop) (bs : List Int) (hb : bs ≠ []) (hbl : bs.length + ((x.sites.map keyBy).flatten).length ≤ 900000) (s : St) (w : V) (lo : Nat) (hlo : 1 ≤ lo) (hE : RB s lo w bs Bo)
    (h : ∀ s' w' lo', 1 ≤ lo' → RB s' lo' w' (bs ++ (x.sites.map keyBy).flatten) Bo → W TT PT k [(4, w'), (27, A), (28, .int .i64 B), (29, .int .i64 C), (53, x.sl), (54, .int .i64 x.sites.length), (55, .int .i64 x.sites.length)] s' Q) :
    W TT PT (.l [4, 27, 28, 29, 53, 54, 55] lp33_1 :: .b 4 :: k) [(4, w), (27, A), (28, .int .i64 B), (29, .int .i64 C), (53, x.sl), (54, .int .i64 x.sites.length), (55, .int .i64 0)] s Q := by
  refine loop_w (α := Nat × St × V × Nat × List Int) (fun a => x.sites.length - a.1) (fun a => [(4, a.2.2.1), (27, A), (28, .int .i64 B), (29, .int .i64 C), (53, x.sl), (54, .int .i64 x.sites.length), (55, .int .i64 a.1)]) (fun a => a.2.1)
    (fun a => a.1 ≤ x.sites.length ∧ RB a.2.1 a.2.2.2.1 a.2.2.1 a.2.2.2.2 Bo ∧ 1 ≤ a.2.2.2.1 ∧ a.2.2.2.2 ≠ [] ∧ a.2.2.2.2 ++ ((x.sites.drop a.1).map keyBy).flatten = bs ++ (x.sites.map keyBy).flatten) ?_ (0, s, w, lo, bs) ⟨by simp, hE, hlo, hb, rfl⟩
  rintro ⟨i, s1, w1, lo1, b1⟩ ⟨hi, hE1, hlo1, hb1, hd⟩ ih
  simp only at hi hE1 hlo1 hb1 hd ih
  have hx4 := entB_len hx
  refine w_rep (by delta lp33_1; exact rfl) ?_
  rcases Nat.lt_or_ge i x.sites.length with hlt | hge
  · obtain ⟨y, hy, hdr, hm⟩ := at_some hlt
    rw [hdr, List.map_cons, List.flatten_cons] at hd
    have hlen := congrArg List.length hd
    simp only [List.length_append] at hlen
    have hkb : (keyBy y).length = (varL y.2.2).length + ((varsL [(y.1.length : Int)]).length + y.1.length) + ((varsL [(y.2.1.length : Int)]).length + y.2.1.length) := by simp [keyBy, strI, varsL]; omega
    obtain ⟨n1, n2⟩ := rb_new hE1 (krow y) 52 rfl
    obtain ⟨w2, s2, p1, p2, p3, p4, p5, p6⟩ := rb_step n1 hlo1 (rest := [.int .i64 y.2.2]) rfl (fun z t => rpi_own z t b1 y.2.2 (by omega) hb1)
    have k1 := (p5 s1.length n2 (by simp)).trans (get_app0 ..)
    simp only [List.length_append, List.length_cons, List.length_nil] at p2 p3 p4 p6
    obtain ⟨w3, s3, q1, q2, q3, q4, q5, q6⟩ := rb_step p2 p4 (rest := [.str y.1]) rfl (fun z t => rtext_own z t (b1 ++ varL y.2.2) y.1 (by simp only [List.length_append]; omega) (by simp [hb1]))
    have k2 := (q5 s1.length (fun hm => by have := p6 _ hm; omega) (by omega)).trans k1
    obtain ⟨w4, s4, r1, r2, r3, r4, r5, r6⟩ := rb_step q2 q4 (rest := [.str y.2.1]) rfl (fun z t => rtext_own z t (b1 ++ varL y.2.2 ++ (varsL [(y.1.length : Int)] ++ strI y.1)) y.2.1 (by simp only [List.length_append, strI, List.length_map]; omega) (by simp [hb1]))
    have k1 : s2[s1.length]? = some (.row [.str y.1, .str y.2.1, .int .i64 y.2.2] 52 0 0) := k1
    have k2 : s3[s1.length]? = some (.row [.str y.1, .str y.2.1, .int .i64 y.2.2] 52 0 0) := k2
    simp only [krow] at p1
    simp only [go_sem, Nat.reduceEqDiff, reduceIte, Nat.reduceAdd, Nat.reduceMul, Nat.reduceLeDiff, Int.reduceLT, Int.reduceLE, Int.reduceToNat, Int.reduceAdd, Int.reduceNeg, Int.reduceEq, lt_t hlt, ents_iad, List.getElem?_map, hy, krow]
    refine wx_call p1 ?_
    simp only [go_sem, Nat.reduceEqDiff, reduceIte, Nat.reduceAdd, Nat.reduceMul, Nat.reduceLeDiff, Int.reduceLT, Int.reduceLE, Int.reduceToNat, Int.reduceAdd, Int.reduceNeg, Int.reduceEq]
    refine w_drw (by kernel_rfl) ?_
    simp only [go_sem, Nat.reduceEqDiff, reduceIte, Nat.reduceAdd, Nat.reduceMul, Nat.reduceLeDiff, Int.reduceLT, Int.reduceLE, Int.reduceToNat, Int.reduceAdd, Int.reduceNeg, Int.reduceEq, k1]
    refine wgx_call q1 (by repeat (first | exact trivial | refine ⟨.inl (by rfl), ?_⟩ | refine ⟨by rfl, ?_⟩ | refine ⟨.inr ⟨by rfl, by rfl⟩, ?_⟩)) (by repeat (first | exact trivial | refine ⟨.inl (by rfl), ?_⟩ | refine ⟨by rfl, ?_⟩ | refine ⟨.inr ⟨by rfl, by rfl⟩, ?_⟩)) ?_
    simp only [go_sem, Nat.reduceEqDiff, reduceIte, Nat.reduceAdd, Nat.reduceMul, Nat.reduceLeDiff, Int.reduceLT, Int.reduceLE, Int.reduceToNat, Int.reduceAdd, Int.reduceNeg, Int.reduceEq, k2]
    refine wgk_rd' ⟨.inr ⟨rd_ok1 k1 rfl, rd_ok1 k2 rfl⟩, trivial⟩ ?_
    simp only [go_sem, Nat.reduceEqDiff, reduceIte, Nat.reduceAdd, Nat.reduceMul, Nat.reduceLeDiff, Int.reduceLT, Int.reduceLE, Int.reduceToNat, Int.reduceAdd, Int.reduceNeg, Int.reduceEq]
    refine wgx_call r1 (by repeat (first | exact trivial | refine ⟨.inl (by rfl), ?_⟩ | refine ⟨by rfl, ?_⟩ | refine ⟨.inr ⟨by rfl, by rfl⟩, ?_⟩)) (by repeat (first | exact trivial | refine ⟨.inl (by rfl), ?_⟩ | refine ⟨by rfl, ?_⟩ | refine ⟨.inr ⟨by rfl, by rfl⟩, ?_⟩)) ?_
    simp only [go_sem, Nat.reduceEqDiff, reduceIte, Nat.reduceAdd, Nat.reduceMul, Nat.reduceLeDiff, Int.reduceLT, Int.reduceLE, Int.reduceToNat, Int.reduceAdd, Int.reduceNeg, Int.reduceEq, inc64 (show i < 9223372036854775807 by omega)]
    refine W_keep (ih (i + 1, s4, w4, s3.length, b1 ++ keyBy y) (by simp; omega) ⟨by simp; omega, ?_, r4, by simp [hb1], by simp only; rw [List.append_assoc]; exact hd⟩) rfl
    have e : b1 ++ varL y.2.2 ++ (varsL [(y.1.length : Int)] ++ strI y.1) ++ (varsL [(y.2.1.length : Int)] ++ strI y.2.1) = b1 ++ keyBy y := by simp [keyBy, varsL]
    rw [e] at r2
    exact r2
  · obtain rfl : i = x.sites.length := by omega
    rw [List.drop_eq_nil_of_le hge] at hd
    have hd : b1 = bs ++ (x.sites.map keyBy).flatten := by simpa using hd
    subst hd
    simp only [go_sem, Nat.reduceEqDiff, reduceIte, Nat.reduceAdd, Nat.reduceMul, Nat.reduceLeDiff, Int.reduceLT, Int.reduceLE, Int.reduceToNat, Int.reduceAdd, Int.reduceNeg, Int.reduceEq, lt_f hge]
    exact h s1 w1 lo1 hlo1 hE1
end Go.Proofs.YtikkmcchhddfoaaGreatDoor.KM
