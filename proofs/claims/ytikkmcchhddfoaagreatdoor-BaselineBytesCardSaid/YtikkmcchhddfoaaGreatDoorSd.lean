/- Walks: bytes of baselines: the program's Encode, whole. -/
import Derived.Test.YtikkmcchhddfoaaGreatDoorSc
set_option linter.all false
namespace Go.Proofs.YtikkmcchhddfoaaGreatDoor.KM
open Go
theorem wgx_call {deps : List (List Nat)} {n m : Nat} {fs : Fs} {ls : Ls} {K : Env → St → Fs → Ls → Prop} {i : AI} {e : Env} {f : Nat} {args : List V} {v : V} {σ σ1 : St} {T : Nat → Option AF} {pr : Nat → Option (List V → Option V)} (hc : CallS T pr f args σ v σ1) (h1 : chB deps n m fs) (h2 : chR deps n m σ σ1 ls) (h : K (e.putO i.dst v) σ1 ((m, σ, σ1) :: fs) ls) : wgx T pr deps n m i (.call f args) e σ fs ls K := .inr (.inr ⟨v, σ1, hc, h1, h2, h⟩)
theorem sumB_fn (z : Bool) (t : Nat) (l : List Int) (hl : l.length ≤ 1000000000) : Fn TT PT 68 [SL z t (bI l)] (.agg ((sum4 (sumI l)).map (V.int .u8))) := by
  have hs := esum_fn z t l hl
  refine Fn_go T68 rfl ?_
  simp only [go_sem, Nat.reduceEqDiff, reduceIte, Nat.reduceAdd, Nat.reduceMul, Nat.reduceLeDiff, Int.reduceLT, Int.reduceLE, Int.reduceToNat, Int.reduceAdd, Int.reduceNeg, Int.reduceEq]
  refine wx_fn hs (by simp only [go_sem]) ?_
  simp only [go_sem, Nat.reduceEqDiff, reduceIte, Nat.reduceAdd, Nat.reduceMul, Nat.reduceLeDiff, Int.reduceLT, Int.reduceLE, Int.reduceToNat, Int.reduceAdd, Int.reduceNeg, Int.reduceEq]
  exact fr_set rfl
theorem fr_tup_sl1 {σ : St} {m e i g : Nat} {xs : List (List V)} {w : V} (ho : σ[i]? = some (.row xs.flatten e g 0)) (hm : 0 < m) (hl : ∀ r ∈ xs, r.length = m) (hr : ∀ r ∈ xs, r.all V.rowB = true) (hw : w.rowB = true) :
    FR (.tup [.sl i g 0 xs.length m true, w]) σ (.tup [.lst 0 xs, w]) := by
  obtain ⟨hi, ho'⟩ := List.getElem?_eq_some_iff.1 ho
  have hx : refsL xs.flatten = [] := refsL_row (rows_all hr)
  have h0 : ren 0 [i] i = 0 := by simp [ren, List.findIdx_cons]
  have hwr : w.refs = [] := rowB_refs hw
  have hwc : okRes1 w = true := by cases w <;> simp [V.rowB] at hw <;> rfl
  have hwn : w.ren (ren 0 [i]) = w := ren_same _ w (by rw [hwr]; simp)
  refine .inr ⟨[i], ?_, ?_⟩
  · simp only [leaveSome, okRes, okRes1, V.refs, refsL, hwr, List.all_cons, List.all_nil, V.cellB, hwc, List.append_nil]
    simp [within, ho', Ob.refs, hx, hi]
    cases w <;> simp [V.rowB] at hw <;> rfl
  · simp only [List.filterMap_cons, ho, List.filterMap_nil, List.map_cons, List.map_nil, Ob.ren, rn_row i _ (rows_all hr), V.ren, renL, h0, hwn, back, settleV]
    have ha : OV [Ob.row xs.flatten e g 0] (V.sl 0 g 0 xs.length m true) (.lst 0 xs) := ov_cell (oc_sl (i := 0) (g := g) (e := e) (z := 0) (w := true) rfl hm hl hr) rfl
    have hww : OV [Ob.row xs.flatten e g 0] w w := ov_set (by cases w <;> simp [V.rowB] at hw <;> rfl)
    exact congrArg (Option.map V.tup) (ovs_map (.cons ha (.cons hww .nil)) fun j hj => cloL_sub _ _ _ _ (List.mem_eraseDups.2 hj))
theorem fr_tup_gl {σ : St} {m e lo : Nat} {u w : V} {xs : List (List V)} (h : GW σ m e lo u xs) (hm : 0 < m) (hl : ∀ r ∈ xs, r.length = m) (hr : ∀ r ∈ xs, r.all V.rowB = true) (hw : w.rowB = true) :
    FR (.tup [u, w]) σ (.tup [SL true 0 xs, w]) := by
  rcases h with ⟨rfl, rfl⟩ | ⟨hn, i, g, rfl, ho, hlo⟩
  · refine fr_tup ?_
    simp only [List.all_cons, List.all_nil, setC, Bool.and_true, Bool.true_and]
    cases w <;> simp [V.rowB] at hw <;> rfl
  · rw [sl_ne hn]; exact fr_tup_sl1 ho hm hl hr hw
def encV (n : Int) (l : List Ent) : V := .tup [if validB n l = true then SL true 0 (bI (encI n l)) else .nils, .int .i64 (if validB n l = true then 0 else 1)]
theorem encode_fn (z : Bool) (t : Nat) (n : Int) (l : List Ent) (ho : okE l) : Fn TT PT 39 [.agg [.int .i64 n, SL z t (l.map Ent.row)]] (encV n l) := by
  have hv := valid_fn z t n l ho
  refine Fn_go T39 rfl ?_
  unfold encV
  cases hb : validB n l
  · rw [hb] at hv
    simp only [go_sem, Nat.reduceEqDiff, reduceIte, Nat.reduceAdd, Nat.reduceMul, Nat.reduceLeDiff, Int.reduceLT, Int.reduceLE, Int.reduceToNat, Int.reduceAdd, Int.reduceNeg, Int.reduceEq]
    refine wx_fn hv (by simp only [go_sem]) ?_
    simp only [go_sem, Nat.reduceEqDiff, reduceIte, Nat.reduceAdd, Nat.reduceMul, Nat.reduceLeDiff, Int.reduceLT, Int.reduceLE, Int.reduceToNat, Int.reduceAdd, Int.reduceNeg, Int.reduceEq]
    exact fr_tup rfl
  · rw [hb] at hv
    obtain ⟨b1, b2, b3, b4, b5⟩ := valid_parts hb
    simp only [go_sem, Nat.reduceEqDiff, reduceIte, Nat.reduceAdd, Nat.reduceMul, Nat.reduceLeDiff, Int.reduceLT, Int.reduceLE, Int.reduceToNat, Int.reduceAdd, Int.reduceNeg, Int.reduceEq]
    refine wx_fn hv (by simp only [go_sem]) ?_
    simp only [go_sem, Nat.reduceEqDiff, reduceIte, Nat.reduceAdd, Nat.reduceMul, Nat.reduceLeDiff, Int.reduceLT, Int.reduceLE, Int.reduceToNat, Int.reduceAdd, Int.reduceNeg, Int.reduceEq]
    obtain ⟨s1, t1, t2, t3, -⟩ := put_th (base := [.row [.int .i64 n, SL z t (l.map Ent.row)] 61 0 0]) (lo := 1) (ob := 2) (bs := [73, 66, 76, 49]) [n, (l.length : Int)] (by simp) (s := [.row [.int .i64 n, SL z t (l.map Ent.row)] 61 0 0, .row [.int .u8 73, .int .u8 66, .int .u8 76, .int .u8 49] 5 0 0, .row [.sl 1 0 0 4 1 true] 22 0 0])
      ⟨cl_push (cl_push (cl_row cl_nil (by simp only [go_sem])) (by simp [Ob.refs, refsL, V.refs])) (by simp [Ob.refs, refsL, V.refs]), ⟨_, rfl, .inr ⟨by simp [bI], 1, 0, rfl, rfl, by omega⟩, by simp [V.refs]⟩, fun j hj h1 => by
        match j, hj with
        | 0, _ => rfl
        | 1, _ => exact absurd rfl h1⟩ (by omega) (by intro w hw i hi; cases hw; simp [V.refs] at hi; exact .inl hi) (by simp) (by simp) (by simp) (by simp)
    simp only [iRows, List.map_cons, List.map_nil] at t1
    simp only [List.length_cons, List.length_nil] at t2 t3
    have hlm : (l.map Ent.row).length = l.length := List.length_map ..
    have htot := bodyI_len (n := n) b3 b1
    rw [hlm]
    refine wx_th t1 ?_
    have hload := t2.old 0 (by omega) (by omega)
    simp only [List.getElem?_cons_zero] at hload
    simp only [go_sem, Nat.reduceEqDiff, reduceIte, Nat.reduceAdd, Nat.reduceMul, Nat.reduceLeDiff, Int.reduceLT, Int.reduceLE, Int.reduceToNat, Int.reduceAdd, Int.reduceNeg, Int.reduceEq, hload, hlm]
    refine loop_w (α := Nat × St × List Int) (fun a => l.length - a.1) (fun a => [(4, .ptr 2 0 0), (5, .fn 86 [] [.ptr 2 0 0]), (26, SL z t (l.map Ent.row)), (27, .int .i64 l.length), (28, .int .i64 a.1)]) (fun a => a.2.1)
      (fun a => a.1 ≤ l.length ∧ EB a.2.1 3 2 a.2.2 [.row [.int .i64 n, SL z t (l.map Ent.row)] 61 0 0] ∧ a.2.2 ≠ [] ∧ a.2.2 ++ ((l.drop a.1).map entBy).flatten = bodyI n l) ?_ (0, s1, [73, 66, 76, 49] ++ varsL [n, (l.length : Int)]) ⟨by simp, t2, by simp, by simp [bodyI]⟩
    rintro ⟨i, s, bs⟩ ⟨hi, hE, hbs, hd⟩ ih
    simp only at hi hE hbs hd ih
    have hlen := congrArg List.length hd
    simp only [List.length_append] at hlen
    have hol := eb_obl hE
    refine w_rep (by delta lp39_1; exact rfl) ?_
    rcases Nat.lt_or_ge i l.length with h | h
    · obtain ⟨x, hx, hdr, hm⟩ := at_some h
      have hx4 := entB_len (b3 x hm)
      rw [hdr, List.map_cons, List.flatten_cons] at hd hlen
      have he : (entBy x).length = (varsL [x.kind, x.seen, x.missed, (x.sites.length : Int)]).length + ((x.sites.map keyBy).flatten).length := by simp [entBy]
      simp only [List.length_append] at hlen
      obtain ⟨n1, n2⟩ := eb_new hE [.int .i64 x.kind, x.sl, .int .i64 x.seen, .int .i64 x.missed] 139 (by simp only [go_sem])
      obtain ⟨s2, u1, u2, u3, u4⟩ := put_th [x.kind, x.seen, x.missed, (x.sites.length : Int)] (by simp) n1 (by omega) (eb_refs n1 (by omega)) hbs (by omega) (by simp) (by simp; omega)
      have k1 := (u4 s.length (by simp) (by omega) n2).trans (get_app0 ..)
      simp only [List.length_append, List.length_cons, List.length_nil] at u2 u3
      simp only [iRows, List.map_cons, List.map_nil] at u1
      have k1 : s2[s.length]? = some (.row [.int .i64 x.kind, x.sl, .int .i64 x.seen, .int .i64 x.missed] 139 0 0) := k1
      simp only [go_sem, Nat.reduceEqDiff, reduceIte, Nat.reduceAdd, Nat.reduceMul, Nat.reduceLeDiff, Int.reduceLT, Int.reduceLE, Int.reduceToNat, Int.reduceAdd, Int.reduceNeg, Int.reduceEq, lt_t h, List.getElem?_map, hx]
      refine wx_th u1 ?_
      simp only [go_sem, Nat.reduceEqDiff, reduceIte, Nat.reduceAdd, Nat.reduceMul, Nat.reduceLeDiff, Int.reduceLT, Int.reduceLE, Int.reduceToNat, Int.reduceAdd, Int.reduceNeg, Int.reduceEq, k1]
      refine enc_keys x (b3 x hm) _ _ _ _ _ _ _ (by simp [hbs]) (by simp only [List.length_append]; omega) s2 (eb_lo u2 (by omega)) fun s' hE' => ?_
      simp only [go_sem, Nat.reduceEqDiff, reduceIte, Nat.reduceAdd, Nat.reduceMul, Nat.reduceLeDiff, Int.reduceLT, Int.reduceLE, Int.reduceToNat, Int.reduceAdd, Int.reduceNeg, Int.reduceEq, inc64 (show i < 9223372036854775807 by omega)]
      refine W_keep (ih (i + 1, s', bs ++ entBy x) (by simp; omega) ⟨by simp; omega, ?_, by simp [hbs], by simp only; rw [List.append_assoc]; exact hd⟩) rfl
      simp only [entBy]
      simpa only [List.append_assoc] using hE'
    · obtain rfl : i = l.length := by omega
      rw [List.drop_eq_nil_of_le h] at hd
      have hd : bs = bodyI n l := by simpa using hd
      subst hd
      obtain ⟨hcl, ⟨w, q1, q2, q3⟩, hold⟩ := hE
      have hsum := sumB_fn true 0 (bodyI n l) (by omega)
      have hw := gw_cell q2
      have q1' : (s ++ [Ob.row ((sum4 (sumI (bodyI n l))).map (V.int .u8)) 130 0 0])[2]? = some (.row [w] 22 0 0) := get_app_some q1
      have q2' := gw_push (l := [Ob.row ((sum4 (sumI (bodyI n l))).map (V.int .u8)) 130 0 0]) q2
      obtain ⟨w', s', e1, g1, l1, -, f1⟩ := gw_app (bytes := 1) (y := .sl s.length 0 0 4 1 false) (ys := bI (sum4 (sumI (bodyI n l)))) q2' (by rw [List.length_append]; omega) (by simp [srcRows, sum4, bI]; rfl) (by omega) (bI_len _) (bI_len _) (by rw [bI_n, bI_n]; simp [sum4]; omega)
      rw [← bI_app] at g1
      simp only [go_sem, Nat.reduceEqDiff, reduceIte, Nat.reduceAdd, Nat.reduceMul, Nat.reduceLeDiff, Int.reduceLT, Int.reduceLE, Int.reduceToNat, Int.reduceAdd, Int.reduceNeg, Int.reduceEq, lt_f h, q1]
      refine wx_fo (.cons (ov_cell (gw_oc q2 (by omega) (bI_len _) (bI_row _)) hw) .nil) hsum (by rfl) ?_
      simp only [sum4, List.map_cons, List.map_nil] at q1' e1 g1 ⊢
      simp only [go_sem, Nat.reduceEqDiff, reduceIte, Nat.reduceAdd, Nat.reduceMul, Nat.reduceLeDiff, Int.reduceLT, Int.reduceLE, Int.reduceToNat, Int.reduceAdd, Int.reduceNeg, Int.reduceEq]
      refine w_drw (by kernel_rfl) ?_
      simp only [go_sem, Nat.reduceEqDiff, reduceIte, Nat.reduceAdd, Nat.reduceMul, Nat.reduceLeDiff, Int.reduceLT, Int.reduceLE, Int.reduceToNat, Int.reduceAdd, Int.reduceNeg, Int.reduceEq, q1', e1]
      refine wgk_ef' (by repeat (first | exact trivial | refine ⟨.inl (by rfl), ?_⟩ | refine ⟨by rfl, ?_⟩ | refine ⟨.inr ⟨by rfl, by rfl⟩, ?_⟩)) (by repeat (first | exact trivial | refine ⟨.inl (by rfl), ?_⟩ | refine ⟨by rfl, ?_⟩ | refine ⟨.inr ⟨by rfl, by rfl⟩, ?_⟩)) ?_
      simp only [go_sem, Nat.reduceEqDiff, reduceIte, Nat.reduceAdd, Nat.reduceMul, Nat.reduceLeDiff, Int.reduceLT, Int.reduceLE, Int.reduceToNat, Int.reduceAdd, Int.reduceNeg, Int.reduceEq]
      exact fr_tup_gl (w := .int .i64 0) g1 (by omega) (bI_len _) (bI_row _) rfl
end Go.Proofs.YtikkmcchhddfoaaGreatDoor.KM
