/- Walks: the reference's Decode, whole; the law Decodes. -/
import Derived.Test.YtikkmcchhddfoaaGreatDoorDl
set_option linter.all false
namespace Go.Proofs.YtikkmcchhddfoaaGreatDoor.KM
open Go
def sB (s : Int) (i : Nat) : Int := IntKind.u8.wrap (s.fdiv (2 ^ min (8 * i) 32))
theorem sum4_eq (s : Int) : sum4 s = [sB s 0, sB s 1, sB s 2, sB s 3] := by
  have h : sB s 0 = IntKind.u8.wrap s := by
    unfold sB
    rw [show (2 : Int) ^ min (8 * 0) 32 = 1 from rfl, Int.fdiv_one]
  rw [h]
  rfl
def decRS (x : List Int) : (Int × List Ent) × Int :=
  if x.length < 8 then ((0, []), 9) else if x.drop (x.length - 4) = sum4 (sumI (x.take (x.length - 4))) then resDS x (x.take (x.length - 4)) else ((0, []), 10)
theorem decRS_eq (x : List Int) : decRS x = decR x := by
  unfold decRS decR
  split
  · rfl
  · split
    · have := res_same (x.take (x.length - 4)) (x.drop (x.length - 4)) (by simp; omega)
      rw [List.take_append_drop] at this
      exact this
    · rfl
theorem decR_len (x : List Int) : (decR x).1.2.length ≤ 64 ∧ ∀ e ∈ (decR x).1.2, e.sites.length ≤ 4 := by
  have h0 : (([] : List Ent).length ≤ 64) ∧ ∀ e ∈ ([] : List Ent), e.sites.length ≤ 4 := ⟨by simp, fun e he => by cases he⟩
  unfold decR
  split
  · exact h0
  · split
    · unfold resDA
      split
      · rename_i p hp
        obtain ⟨n, es⟩ := p
        split
        · exact decA_len hp
        · exact h0
      · exact h0
    · exact h0
theorem b0_zero (σ : St) (h : 0 < σ.length) (e : Env) (h2 : e.get 2 = .ptr 0 0 0) (c : Int) (h3 : e.get 3 = .int .i64 c) : FS [.cell 2 2 false, .tmp 3] (.tup [.agg [.int .i64 0, .nils], .int .i64 c]) e (σ.set 0 (.row [.int .i64 0, .nils] 61 0 0)) := by
  refine fs_set ?_ rfl rfl rfl
  have : (σ.set 0 (.row [.int .i64 0, .nils] 61 0 0))[0]? = some (.row [.int .i64 0, .nils] 61 0 0) := List.getElem?_set_self h
  simp [resV, resOne, h2, h3, loadV, this, mkOne]
theorem rdecode_fn (z : Bool) (t : Nat) {x : List Int} (hB : Byt x) (hl : x.length ≤ 1000000000) : Fn TT PT2 31 [SL z t (bI x)] (decVv (decRS x)) := by
  refine FnS_go T31 rfl ?_
  by_cases h8 : x.length < 8
  · have f8 : ((x.length : Int) < 8) = True := eq_true (by omega)
    have hR : decRS x = ((0, []), 9) := by unfold decRS; rw [if_pos h8]
    rw [hR]
    simp only [go_sem, Nat.reduceEqDiff, reduceIte, Nat.reduceAdd, Nat.reduceMul, Nat.reduceLeDiff, bI_n, f8]
    exact b0_zero [.row [.int .i64 0, .nils] 61 0 0] (by simp) _ rfl 9 rfl
  have f8 : ((x.length : Int) < 8) = False := eq_false (by omega)
  have ws : IntKind.i64.wrap ((x.length : Int) - 4) = ((x.length - 4 : Nat) : Int) := by rw [wrap64 (by omega)]; omega
  obtain ⟨z1, t1, c1⟩ := sl_cut_hi z t 1 (bI x) .i64 (x.length - 4) (by rw [bI_n]; omega)
  have e1 : (bI x).take (x.length - 4) = bI (x.take (x.length - 4)) := by unfold bI; rw [List.map_take]
  rw [e1] at c1
  have hbl : (x.take (x.length - 4)).length = x.length - 4 := by simp
  have hbB := byt_take hB (x.length - 4)
  have hsum := rsum_fn z1 t1 (x.take (x.length - 4)) (by omega)
  have hR0 : decRS x = if x.drop (x.length - 4) = sum4 (sumI (x.take (x.length - 4))) then resDS x (x.take (x.length - 4)) else ((0, []), 10) := by unfold decRS; rw [if_neg h8]
  have htl : (x.drop (x.length - 4)).length = 4 := by simp; omega
  have hget : ∀ i, (x.drop (x.length - 4))[i]? = x[x.length - 4 + i]? := fun i => List.getElem?_drop
  generalize hbd : x.take (x.length - 4) = body at c1 hbl hbB hsum hR0
  generalize x.drop (x.length - 4) = tail at hR0 htl hget
  have hsb := sum4_eq (sumI body)
  generalize hsm : sumI body = sm at hsum hR0 hsb
  simp only [go_sem, Nat.reduceEqDiff, reduceIte, Nat.reduceAdd, Nat.reduceMul, Nat.reduceLeDiff, bI_n, f8, ws, c1]
  refine wx_fn (fnm hsum) (by simp only [go_sem]) ?_
  simp only [go_sem, Nat.reduceEqDiff, reduceIte, Nat.reduceAdd, Nat.reduceMul, Nat.reduceLeDiff]
  refine loop_w (α := Nat) (fun i => 4 - i) (fun i => [(0, SL z t (bI x)), (2, .ptr 0 0 0), (4, SL z1 t1 (bI body)), (5, .int .u32 sm), (6, .int .i64 i)]) (fun _ => [.row [.int .i64 0, .nils] 61 0 0]) (fun i => i ≤ 4 ∧ ∀ j, j < i → tail[j]? = some (sB sm j)) ?_ 0 ⟨by omega, fun j hj => by omega⟩
  rintro i ⟨hi, hall⟩ ih
  refine w_rep (by delta lp31_0; exact rfl) ?_
  rcases Nat.lt_or_ge i 4 with h | h
  · have i4 : ((i : Int) < 4) = True := eq_true (by omega)
    obtain ⟨y, hy, -, -⟩ := at_some (l := tail) (i := i) (by omega)
    have hxy := bI_get ((hget i).symm.trans hy)
    have wa : IntKind.i64.wrap (((x.length - 4 : Nat) : Int) + (i : Int)) = ((x.length - 4 + i : Nat) : Int) := by rw [wrap64 (by omega)]; omega
    have wm : IntKind.i64.wrap (8 * (i : Int)) = ((8 * i : Nat) : Int) := by rw [wrap64 (by omega)]; simp
    have nm : (((8 * i : Nat) : Int) < 0) = False := eq_false (by omega)
    by_cases hne : y = sB sm i
    · have fe : (y != IntKind.u8.wrap (sm.fdiv (2 ^ min (8 * i) 32))) = false := by rw [hne]; simp [sB]
      simp only [go_sem, Nat.reduceEqDiff, reduceIte, Nat.reduceAdd, Nat.reduceMul, Nat.reduceLeDiff, i4]
      refine w_drw (by kernel_rfl) ?_
      simp only [go_sem, Nat.reduceEqDiff, reduceIte, Nat.reduceAdd, Nat.reduceMul, Nat.reduceLeDiff, bI_n, hbl, wa, hxy, wm, nm, Int.toNat_natCast, fe]
      simp only [go_sem, Nat.reduceEqDiff, reduceIte, Nat.reduceAdd, Nat.reduceMul, Nat.reduceLeDiff, inc64 (show i < 9223372036854775807 by omega)]
      refine W_keep (ih (i + 1) (by omega) ⟨by omega, fun j hj => ?_⟩) rfl
      rcases Nat.lt_or_ge j i with hj2 | hj2
      · exact hall j hj2
      · obtain rfl : j = i := by omega
        rw [hy, hne]
    · have fe : (y != IntKind.u8.wrap (sm.fdiv (2 ^ min (8 * i) 32))) = true := by
        have : ¬ y = IntKind.u8.wrap (sm.fdiv (2 ^ min (8 * i) 32)) := hne
        simp [this]
      have hno : ¬ tail = sum4 sm := fun hh => by
        rw [hh, hsb] at hy
        apply hne
        match i, h, hy with
        | 0, _, hy => exact (Option.some.inj hy).symm
        | 1, _, hy => exact (Option.some.inj hy).symm
        | 2, _, hy => exact (Option.some.inj hy).symm
        | 3, _, hy => exact (Option.some.inj hy).symm
      rw [if_neg hno] at hR0
      rw [hR0]
      simp only [go_sem, Nat.reduceEqDiff, reduceIte, Nat.reduceAdd, Nat.reduceMul, Nat.reduceLeDiff, i4]
      refine w_drw (by kernel_rfl) ?_
      simp only [go_sem, Nat.reduceEqDiff, reduceIte, Nat.reduceAdd, Nat.reduceMul, Nat.reduceLeDiff, bI_n, hbl, wa, hxy, wm, nm, Int.toNat_natCast, fe]
      exact b0_zero [.row [.int .i64 0, .nils] 61 0 0] (by simp) _ rfl 10 rfl
  · obtain rfl : i = 4 := by omega
    have htail : tail = sum4 sm := by
      rw [hsb]
      match tail, htl, hall with
      | [a, b, c, d], _, hall =>
        have h0 := hall 0 (by omega)
        have h1 := hall 1 (by omega)
        have h2 := hall 2 (by omega)
        have h3 := hall 3 (by omega)
        simp only [List.getElem?_cons_zero, List.getElem?_cons_succ, Option.some.injEq] at h0 h1 h2 h3
        rw [h0, h1, h2, h3]
    rw [if_pos htail] at hR0
    have hlx : body.length ≤ 1000000000 := by omega
    clear ih hall hsb htail hget htl hsm hbd c1 ws f8
    obtain ⟨z2, t2, c2⟩ := sl_cut_lo z1 t1 1 (bI body) .i64 4 (by rw [bI_n]; omega) (bI_len body)
    have e2 : (bI body).drop 4 = bI (body.drop 4) := by unfold bI; rw [List.map_drop]
    rw [e2] at c2
    have c2 : slcV 1 (SL z1 t1 (bI body)) (some (.int .i64 4)) none none = some (SL z2 t2 (bI (body.drop 4))) := c2
    have hB4 := byt_drop hbB 4
    have hl4 : (body.drop 4).length ≤ 1000000000 := by simp; omega
    obtain ⟨τ, q1, u1⟩ := rnum_th (σ := [.row [.int .i64 0, .nils] 61 0 0, rO z2 t2 (body.drop 4, false)]) (b := 1) (s := (body.drop 4, false)) rfl hl4 hB4 1073741824
    obtain ⟨B1, l1⟩ := numS_in (most := 1073741824) (s := (body.drop 4, false)) hB4
    obtain ⟨⟨z3, t3, g1⟩, n1, f1⟩ := u1
    simp only [List.length_cons, List.length_nil] at n1
    have n1 : τ.length = 2 := n1
    obtain ⟨K1, hK1⟩ : ∃ K1, K1 = Ob.row [.int .i64 (numS 1073741824 (body.drop 4, false)).1, .nils] 61 0 0 := ⟨_, rfl⟩
    have g1' : (τ ++ [K1])[1]? = some (rO z3 t3 (numS 1073741824 (body.drop 4, false)).2) := get_app_some g1
    simp only at l1
    obtain ⟨τ2, q2, u2⟩ := rnum_th g1' (by omega) B1 64
    obtain ⟨B2, l2⟩ := numS_in (most := 64) B1
    obtain ⟨c0, c64⟩ := numS_le (most := 64) (by omega) (numS 1073741824 (body.drop 4, false)).2
    obtain ⟨g2, n2, f2⟩ := u2
    have k0 : τ2[0]? = some (bO 0 .nils) := by rw [f2 0 (by omega), List.getElem?_append_left (by omega), f1 0 (by omega)]; rfl
    have k2 : τ2[2]? = some (bO (numS 1073741824 (body.drop 4, false)).1 .nils) := by rw [f2 2 (by omega), List.getElem?_append_right (by omega), n1, hK1]; rfl
    have hdec : decS body = (((numS 1073741824 (body.drop 4, false)).1, (entsS (numS 64 (numS 1073741824 (body.drop 4, false)).2).1.toNat (numS 64 (numS 1073741824 (body.drop 4, false)).2).2).1), (entsS (numS 64 (numS 1073741824 (body.drop 4, false)).2).1.toNat (numS 64 (numS 1073741824 (body.drop 4, false)).2).2).2) := rfl
    unfold resDS at hR0
    rw [hdec] at hR0
    rw [hK1] at q2
    have q1 : Th TT PT 71 [.ptr 1 0 0, .int .i64 1073741824] [.row [.int .i64 0, .nils] 61 0 0, .row [SL z2 t2 (bI (body.drop 4)), .bool false] 137 0 0] (.int .i64 (numS 1073741824 (body.drop 4, false)).1) τ := q1
    clear hdec f2 hK1 g1'
    generalize (numS 64 (numS 1073741824 (body.drop 4, false)).2).2 = r2 at *
    generalize (numS 64 (numS 1073741824 (body.drop 4, false)).2).1 = c at *
    generalize (numS 1073741824 (body.drop 4, false)).1 = n at *
    obtain ⟨cn, rfl⟩ := Int.eq_ofNat_of_zero_le c0
    simp only [Int.toNat_natCast] at hR0
    have i4 : (((4 : Nat) : Int) < 4) = False := eq_false (by omega)
    have i4' : ((4 : Int) < 4) = False := eq_false (by omega)
    simp only [go_sem, Nat.reduceEqDiff, reduceIte, Nat.reduceAdd, Nat.reduceMul, Nat.reduceLeDiff, i4, i4', c2]
    refine wx_th (thm2 q1) ?_
    simp only [go_sem, Nat.reduceEqDiff, reduceIte, Nat.reduceAdd, Nat.reduceMul, Nat.reduceLeDiff]
    refine wx_th (thm2 q2) ?_
    simp only [go_sem, Nat.reduceEqDiff, reduceIte, Nat.reduceAdd, Nat.reduceMul, Nat.reduceLeDiff, n1]
    refine rents_w (n := n) (c := cn) (by omega) (R := entsS cn r2) (fun s u hs1 hs0 hs2 hu h3 k => ?_) r2 τ2 rfl B2 (by omega) g2 k0 k2
    obtain ⟨el, em⟩ := entsS_len cn r2
    generalize entsS cn r2 = ER at *
    obtain ⟨es, r3⟩ := ER
    simp only at hR0 hs1 hu el em
    obtain ⟨zr, tr, hs1⟩ := hs1
    have he := rencode_fn true 0 n es (okE_4 em)
    obtain ⟨s', ha, ln, hlo, hoc⟩ := after_oc (args := [.agg [.int .i64 n, u]]) (v := encV n es) hu (by omega) (erows_len _) (erows_row _) (by simp [refsL, V.refs])
    have h2 : s[2]? = some (.row [.int .i64 n, u] 61 0 0) := hs2
    have h2' : s'[2]? = some (.row [.int .i64 n, u] 61 0 0) := by rw [hlo 2 (by omega)]; exact hs2
    have h1' : s'[1]? = some (.row [SL zr tr (bI r3.1), .bool r3.2] 137 0 0) := by rw [hlo 1 (by omega)]; exact hs1
    have h0' : s'[0]? = some (.row [.int .i64 0, .nils] 61 0 0) := by rw [hlo 0 (by omega)]; exact hs0
    have hwc := gw_cell hu
    have hov : OVs s [.agg [.int .i64 n, u]] [.agg [.int .i64 n, SL true 0 (es.map Ent.row)]] := .cons (ov_agg (.cons (oc_row rfl) (.cons (gw_oc hu (by omega) (erows_len _) (erows_row _)) .nil))) .nil
    unfold encV at he ha
    have l0' : 0 < s'.length := (List.getElem?_eq_some_iff.1 h0').1
    cases hbad : r3.2
    rotate_left
    · rw [hbad] at h1' hR0
      rw [if_neg (by simp)] at hR0
      rw [hR0]
      simp only [go_sem, Nat.reduceEqDiff, reduceIte, Nat.reduceAdd, Nat.reduceMul, Nat.reduceLeDiff, h2, hwc]
      refine wx_fz hov (fnm he) ha ?_
      simp only [go_sem, Nat.reduceEqDiff, reduceIte, Nat.reduceAdd, Nat.reduceMul, Nat.reduceLeDiff, h1', h0']
      exact b0_zero s' l0' _ rfl 11 rfl
    rw [hbad] at h1' hR0
    cases hb : validB n es
    · rw [hb] at he ha hR0
      rw [if_neg (by simp)] at hR0
      rw [hR0]
      simp only [go_sem, Nat.reduceEqDiff, reduceIte, Nat.reduceAdd, Nat.reduceMul, Nat.reduceLeDiff, h2, hwc]
      refine wx_fz hov (fnm he) ha ?_
      simp only [go_sem, Nat.reduceEqDiff, reduceIte, Nat.reduceAdd, Nat.reduceMul, Nat.reduceLeDiff, h1', h0', Int.reduceBNe]
      exact b0_zero s' l0' _ rfl 11 rfl
    · rw [hb] at he ha hR0
      have r1 := rowsByte_bI (enc_byt n es)
      have r2' := rowsByte_bI hB
      have req := byt_eq (enc_byt n es) hB
      by_cases hx : encI n es = x
      · rw [if_pos ⟨rfl, rfl, hx⟩] at hR0
        rw [decide_eq_true hx] at req
        rw [hR0]
        simp only [go_sem, Nat.reduceEqDiff, reduceIte, Nat.reduceAdd, Nat.reduceMul, Nat.reduceLeDiff, h2, hwc]
        refine wx_fz hov (fnm he) ha ?_
        simp only [go_sem, Nat.reduceEqDiff, reduceIte, Nat.reduceAdd, Nat.reduceMul, Nat.reduceLeDiff, h1', h0', h2', Int.reduceBNe, r1, r2', req, hwc]
        have hg : (s'.set 0 (.row [.int .i64 n, u] 61 0 0))[0]? = some (.row [.int .i64 n, u] 61 0 0) := List.getElem?_set_self l0'
        refine fs_pair (a := .agg [.int .i64 n, u]) (b := .int .i64 0) (by simp [resV, resOne, Env.get, loadV, hg, mkOne]) ?_ (ov_agg (.cons (oc_row rfl) (.cons (hoc _ fun j hj => List.getElem?_set_ne (by omega)) .nil))) (ov_set rfl) (by simp only [go_sem]) rfl
        simp only [okRes, okRes1, List.all_cons, List.all_nil, Bool.and_true, hwc]
        rfl
      · rw [if_neg fun hh => hx hh.2.2] at hR0
        rw [decide_eq_false hx] at req
        rw [hR0]
        simp only [go_sem, Nat.reduceEqDiff, reduceIte, Nat.reduceAdd, Nat.reduceMul, Nat.reduceLeDiff, h2, hwc]
        refine wx_fz hov (fnm he) ha ?_
        simp only [go_sem, Nat.reduceEqDiff, reduceIte, Nat.reduceAdd, Nat.reduceMul, Nat.reduceLeDiff, h1', h0', h2', Int.reduceBNe, r1, r2', req, hwc]
        exact b0_zero s' l0' _ rfl 11 rfl
theorem lawDecodes_fn (z : Bool) (t : Nat) {x : List Int} (hB : Byt x) (hl : x.length ≤ 9223372036854775807) : Fn TT PT2 7 [SL z t (bI x)] (.bool true) := by
  refine Fn_go T7 rfl ?_
  cases hlen : decide ((4000 : Int) < (x.length : Int))
  rotate_left
  · simp only [go_sem, Nat.reduceEqDiff, reduceIte, Nat.reduceAdd, Nat.reduceMul, Nat.reduceLeDiff, bI_n, hlen]
    refine wx_fn (fnm awake_fn) (by simp only [go_sem]) ?_
    simp only [go_sem, Nat.reduceEqDiff, reduceIte, Nat.reduceAdd, Nat.reduceMul, Nat.reduceLeDiff]
    exact fr_set rfl
  have hlen' : x.length ≤ 4000 := by
    have := of_decide_eq_false hlen
    omega
  have hp := decode_fn z t hB (by omega)
  have hr := rdecode_fn z t hB (by omega)
  rw [decRS_eq] at hr
  obtain ⟨k1, k2⟩ := decR_len x
  have sb := sameB_fn true true 0 0 (decR x).1.1 (decR x).1.2 (okE_4 k2) (by omega)
  unfold decVv at hp hr
  generalize (decR x).1.1 = n at hr hp sb
  generalize (decR x).1.2 = l at hr hp sb
  generalize (decR x).2 = e at hr hp
  simp only [go_sem, Nat.reduceEqDiff, reduceIte, Nat.reduceAdd, Nat.reduceMul, Nat.reduceLeDiff, bI_n, hlen]
  refine wx_fn hp (by simp only [go_sem]) ?_
  simp only [go_sem, Nat.reduceEqDiff, reduceIte, Nat.reduceAdd, Nat.reduceMul, Nat.reduceLeDiff]
  refine wx_fn hr (by simp only [go_sem]) ?_
  simp only [go_sem, Nat.reduceEqDiff, reduceIte, Nat.reduceAdd, Nat.reduceMul, Nat.reduceLeDiff, beq_self_eq_true]
  refine wx_fn (fnm sb) (by simp only [go_sem]) ?_
  simp only [go_sem, Nat.reduceEqDiff, reduceIte, Nat.reduceAdd, Nat.reduceMul, Nat.reduceLeDiff]
  refine wx_fn (fnm awake_fn) (by simp only [go_sem]) ?_
  simp only [go_sem, Nat.reduceEqDiff, reduceIte, Nat.reduceAdd, Nat.reduceMul, Nat.reduceLeDiff]
  exact fr_set rfl
end Go.Proofs.YtikkmcchhddfoaaGreatDoor.KM
