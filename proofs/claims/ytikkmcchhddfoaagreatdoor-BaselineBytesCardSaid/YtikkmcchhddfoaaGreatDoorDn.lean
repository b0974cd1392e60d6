/- Walks: the law Bytes. -/
import Derived.Test.YtikkmcchhddfoaaGreatDoorDm
import Derived.Test.YtikkmcchhddfoaaGreatDoorJb
import Derived.Test.YtikkmcchhddfoaaGreatDoorYb
set_option linter.all false
namespace Go.Proofs.YtikkmcchhddfoaaGreatDoor.KM
open Go
theorem byteRows_bI (s : List UInt8) : byteRows s = bI (strI s) := by
  unfold byteRows bI strI
  rw [List.map_map]
  rfl
/-- a list's object that a pure call has settled: it lies as it lay -/
theorem after_sl {σ : St} {i e g z m : Nat} {w : Bool} {xs : List (List V)} (ho : σ[i]? = some (.row xs.flatten e g z)) (hr : ∀ r ∈ xs, r.all V.rowB = true) (v : V) : ∃ σ', after σ [.sl i g 0 xs.length m w] v = σ' ∧ σ'.length = σ.length ∧ (∀ j, j ≠ i → σ'[j]? = σ[j]?) ∧ ∃ z', σ'[i]? = some (.row xs.flatten e g z') := by
  unfold after
  split
  · exact ⟨_, rfl, rfl, fun _ _ => rfl, z, ho⟩
  · refine ⟨_, rfl, ?_⟩
    have : jsOf σ [.sl i g 0 xs.length m w] = [i] := by
      unfold jsOf
      have e1 : (refsL [V.sl i g 0 xs.length m w]).eraseDups = [i] := by simp [refsL, V.refs, List.eraseDups_cons]
      rw [e1]
      have hx : refsL xs.flatten = [] := refsL_row (rows_all hr)
      simp [clo, ho, Ob.refs, hx]
    rw [this]
    have hi := (List.getElem?_eq_some_iff.1 ho).1
    refine ⟨freeze_one_len σ i, fun j hj => freeze_one σ i j hj, xs.flatten.length, ?_⟩
    simp only [St.freeze, ho, Ob.shut]
    exact List.getElem?_set_self hi
/-- what both decoders make of the bytes in an object -/
theorem bytes_facts {τ : St} {i e g z len : Nat} {x : List Int} (ho : τ[i]? = some (.row (bI x).flatten e g z)) (hB : Byt x) (hl : x.length ≤ 1000000000) (hlen : len = x.length) :
    ∃ (n : Int) (l : List Ent) (c : Int) (τ1 τ2 : St), OVs τ [.sl i g 0 len 1 true] [SL false 0 (bI x)] ∧ Fn TT PT2 30 [SL false 0 (bI x)] (.tup [.agg [.int .i64 n, SL true 0 (l.map Ent.row)], .int .i64 c]) ∧ after τ [.sl i g 0 len 1 true] (.tup [.agg [.int .i64 n, SL true 0 (l.map Ent.row)], .int .i64 c]) = τ1 ∧
      OVs (τ1 ++ [.row [.int .i64 n, SL true 0 (l.map Ent.row)] 61 0 0]) [.sl i g 0 len 1 true] [SL false 0 (bI x)] ∧ Fn TT PT2 31 [SL false 0 (bI x)] (.tup [.agg [.int .i64 n, SL true 0 (l.map Ent.row)], .int .i64 c]) ∧
      after (τ1 ++ [.row [.int .i64 n, SL true 0 (l.map Ent.row)] 61 0 0]) [.sl i g 0 len 1 true] (.tup [.agg [.int .i64 n, SL true 0 (l.map Ent.row)], .int .i64 c]) = τ2 ∧
      (τ2 ++ [.row [.int .i64 n, SL true 0 (l.map Ent.row)] 61 0 0])[τ1.length]? = some (.row [.int .i64 n, SL true 0 (l.map Ent.row)] 61 0 0) ∧
      Fn TT PT 32 [.agg [.int .i64 n, SL true 0 (l.map Ent.row)], .agg [.int .i64 n, SL true 0 (l.map Ent.row)]] (.bool true) := by
  subst hlen
  have hp := decode_fn false 0 hB hl
  have hr := rdecode_fn false 0 hB hl
  rw [decRS_eq] at hr
  obtain ⟨k1, k2⟩ := decR_len x
  have sb := sameB_fn true true 0 0 (decR x).1.1 (decR x).1.2 (okE_4 k2) (by omega)
  unfold decVv at hp hr
  have hil := (List.getElem?_eq_some_iff.1 ho).1
  obtain ⟨τ1, a1, n1, f1, z1, o1⟩ := after_sl (m := 1) (w := true) ho (bI_row x) (.tup [.agg [.int .i64 (decR x).1.1, SL true 0 ((decR x).1.2.map Ent.row)], .int .i64 (decR x).2])
  have o1' : (τ1 ++ [Ob.row [.int .i64 (decR x).1.1, SL true 0 ((decR x).1.2.map Ent.row)] 61 0 0])[i]? = some (.row (bI x).flatten e g z1) := get_app_some o1
  obtain ⟨τ2, a2, n2, f2, z2, o2⟩ := after_sl (m := 1) (w := true) o1' (bI_row x) (.tup [.agg [.int .i64 (decR x).1.1, SL true 0 ((decR x).1.2.map Ent.row)], .int .i64 (decR x).2])
  have v1 := oc_sl (w := true) ho (by omega) (bI_len x) (bI_row x)
  have v2 := oc_sl (w := true) o1' (by omega) (bI_len x) (bI_row x)
  rw [bI_n] at a1 a2 v1 v2
  refine ⟨_, _, _, τ1, τ2, .cons (ov_cell v1 rfl) .nil, hp, a1, .cons (ov_cell v2 rfl) .nil, hr, a2, get_app_some ?_, sb⟩
  rw [f2 _ (by omega), List.getElem?_append_right (Nat.le_refl _), Nat.sub_self]
  rfl
theorem lawBytes_fn (z : Bool) (t : Nat) (l : List Item) (n at' how c : Nat) (sum : Bool) (hn : n < 256) (hat : at' < 65536) (hc : c < 256) (hl : l.length ≤ 9223372036854775807) (hok : ∀ x ∈ l, x.ok) :
    Fn TT PT2 8 [SL z t (l.map Item.row), .int .u8 n, .int .u16 at', .int .u16 how, .int .u8 c, .bool sum] (.bool true) := by
  have hba := base_fn z t l n hn hl hok
  have hv := pre_valid l n (by omega) (by omega)
  obtain ⟨b1, b2, b3, b4, b5⟩ := valid_parts hv
  have hen := rencode_fn true 0 (n : Int) (preE l 20) (okE_of b3)
  unfold encV at hen
  rw [hv] at hen
  have hxB := enc_byt (n : Int) (preE l 20)
  have hbl := bodyI_len (n := (n : Int)) b3 b1
  have hx4 : (encI (n : Int) (preE l 20)).length = (bodyI (n : Int) (preE l 20)).length + 4 := by unfold encI; rw [List.length_append]; rfl
  generalize encI (n : Int) (preE l 20) = x at hen hxB hx4
  generalize (bodyI (n : Int) (preE l 20)).length = bl at hbl hx4
  refine Fn_go T8 rfl ?_
  have ws : IntKind.i64.wrap ((x.length : Int) - 4) = ((x.length - 4 : Nat) : Int) := by rw [wrap64 (by omega)]; omega
  cases sum
  · obtain ⟨s, hsp, hs⟩ := spoil_fn (byt x) at' how c (by simp [byt]; omega) hat hc
    have rb := rowsByte_bI hxB
    have hsl : s.length = (strI s).length := (List.length_map ..).symm
    have hle : s.length ≤ 1000000000 := by have : (byt x).length = x.length := by simp [byt]
                                           omega
    simp only [go_sem, Nat.reduceEqDiff, reduceIte, Nat.reduceAdd, Nat.reduceMul, Nat.reduceLeDiff]
    refine wx_fn (fnm hba) (by simp only [go_sem]) ?_
    simp only [go_sem, Nat.reduceEqDiff, reduceIte, Nat.reduceAdd, Nat.reduceMul, Nat.reduceLeDiff]
    refine wx_fn (fnm hen) (by simp only [go_sem]) ?_
    simp only [go_sem, Nat.reduceEqDiff, reduceIte, Nat.reduceAdd, Nat.reduceMul, Nat.reduceLeDiff, Int.reduceBNe, rb]
    refine wx_fn (fnm hsp) (by simp only [go_sem]) ?_
    obtain ⟨n', l', c', τ1, τ2, v1, hp, a1, v2, hr, a2, k3, sb⟩ := bytes_facts (τ := [.row (bI (strI s)).flatten 5 0 0]) (i := 0) (e := 5) (g := 0) (z := 0) (len := (strI s).length) (x := strI s) rfl (str_in s) (by omega) rfl
    simp only [go_sem, Nat.reduceEqDiff, reduceIte, Nat.reduceAdd, Nat.reduceMul, Nat.reduceLeDiff, byteRows_bI, hsl]
    refine wx_fz v1 hp a1 ?_
    simp only [go_sem, Nat.reduceEqDiff, reduceIte, Nat.reduceAdd, Nat.reduceMul, Nat.reduceLeDiff]
    refine wx_fz v2 hr a2 ?_
    simp only [go_sem, Nat.reduceEqDiff, reduceIte, Nat.reduceAdd, Nat.reduceMul, Nat.reduceLeDiff, beq_self_eq_true, k3]
    refine wx_fn (fnm sb) (by simp only [go_sem]) ?_
    simp only [go_sem, Nat.reduceEqDiff, reduceIte, Nat.reduceAdd, Nat.reduceMul, Nat.reduceLeDiff]
    refine wx_fn (fnm awake_fn) (by simp only [go_sem]) ?_
    simp only [go_sem, Nat.reduceEqDiff, reduceIte, Nat.reduceAdd, Nat.reduceMul, Nat.reduceLeDiff]
    exact fr_set rfl
  · obtain ⟨z1, t1, c1⟩ := sl_cut_hi true 0 1 (bI x) .i64 (x.length - 4) (by rw [bI_n]; omega)
    have e1 : (bI x).take (x.length - 4) = bI (x.take (x.length - 4)) := by unfold bI; rw [List.map_take]
    rw [e1] at c1
    have hbB := byt_take hxB (x.length - 4)
    obtain ⟨s, hsp, hs⟩ := spoil_fn (byt (x.take (x.length - 4))) at' how c (by simp [byt]; omega) hat hc
    have rb := rowsByte_bI hbB
    have hsl : s.length = (strI s).length := (List.length_map ..).symm
    have hbyl : (byt (x.take (x.length - 4))).length = x.length - 4 := by simp [byt]
    have hle : s.length ≤ 1000000 := by omega
    have hle2 : (strI s).length ≤ 1000000000 := by omega
    have hsum := rsum_fn false 0 (strI s) hle2
    have ho : ([Ob.row (bI (strI s)).flatten 5 0 0] : St)[0]? = some (.row (bI (strI s)).flatten 5 0 0) := rfl
    have hgv : GV [Ob.row (bI (strI s)).flatten 5 0 0] 1 5 0 (.sl 0 0 0 (bI (strI s)).length 1 true) (bI (strI s)) := .inr ⟨0, 0, rfl, rfl, Nat.le_refl _⟩
    obtain ⟨u', s', a1, g1, -, -, -⟩ := gv_app (bytes := 1) (y := .lst 1 (bI (sum4 (sumI (strI s))))) (ys := bI (sum4 (sumI (strI s)))) hgv (Nat.zero_le _) rfl (by omega) (bI_len _) (bI_len _) (by rw [bI_n, bI_n]; simp [sum4]; omega)
    rw [← bI_app] at g1
    have hov : OVs [Ob.row (bI (strI s)).flatten 5 0 0] [.sl 0 0 0 (bI (strI s)).length 1 true] [SL false 0 (bI (strI s))] := .cons (ov_cell (oc_sl ho (by omega) (bI_len _) (bI_row _)) rfl) .nil
    have hyB := byt_app (str_in s) (sum4_byt (sumI (strI s)))
    have hyl : (strI s ++ sum4 (sumI (strI s))).length ≤ 1000000000 := by
      rw [List.length_append]
      simp [sum4]
      omega
    have hne : strI s ++ sum4 (sumI (strI s)) ≠ [] := by simp [sum4]
    rcases g1 with ⟨-, g1⟩ | ⟨i, g, rfl, ho', -⟩
    · have := congrArg List.length g1
      rw [bI_n, List.length_append] at this
      simp [sum4] at this
    rw [bI_n] at hov a1
    rw [bI_n] at a1
    obtain ⟨n', l', c', τ1, τ2, v1, hp, a4, v2, hr, a2, k3, sb⟩ := bytes_facts (len := (strI s).length + 4) ho' hyB hyl (by rw [List.length_append]; rfl)
    simp only [sum4, bI, List.map_cons, List.map_nil] at a1
    have hbr : (byteRows s).flatten = (bI (strI s)).flatten := by rw [byteRows_bI]
    simp only [go_sem, Nat.reduceEqDiff, reduceIte, Nat.reduceAdd, Nat.reduceMul, Nat.reduceLeDiff, bI_n, ws]
    refine wx_fn (fnm hba) (by simp only [go_sem]) ?_
    simp only [go_sem, Nat.reduceEqDiff, reduceIte, Nat.reduceAdd, Nat.reduceMul, Nat.reduceLeDiff, bI_n, ws]
    refine wx_fn (fnm hen) (by simp only [go_sem]) ?_
    simp only [go_sem, Nat.reduceEqDiff, reduceIte, Nat.reduceAdd, Nat.reduceMul, Nat.reduceLeDiff, Int.reduceBNe, bI_n, ws, c1, rb]
    refine wx_fn (fnm hsp) (by simp only [go_sem]) ?_
    simp only [go_sem, Nat.reduceEqDiff, reduceIte, Nat.reduceAdd, Nat.reduceMul, Nat.reduceLeDiff, hbr, hsl]
    refine wx_fo hov (fnm hsum) (by rfl) ?_
    simp only [go_sem, Nat.reduceEqDiff, reduceIte, Nat.reduceAdd, Nat.reduceMul, Nat.reduceLeDiff, Int.reduceLT, Int.reduceToNat]
    rw [show (bI (strI s)) = (strI s).map (fun x => [V.int .u8 x]) from rfl, a1]
    simp only [go_sem, Nat.reduceEqDiff, reduceIte, Nat.reduceAdd, Nat.reduceMul, Nat.reduceLeDiff]
    refine wx_fz v1 hp a4 ?_
    simp only [go_sem, Nat.reduceEqDiff, reduceIte, Nat.reduceAdd, Nat.reduceMul, Nat.reduceLeDiff]
    refine wx_fz v2 hr a2 ?_
    simp only [go_sem, Nat.reduceEqDiff, reduceIte, Nat.reduceAdd, Nat.reduceMul, Nat.reduceLeDiff, beq_self_eq_true, k3]
    refine wx_fn (fnm sb) (by simp only [go_sem]) ?_
    simp only [go_sem, Nat.reduceEqDiff, reduceIte, Nat.reduceAdd, Nat.reduceMul, Nat.reduceLeDiff]
    refine wx_fn (fnm awake_fn) (by simp only [go_sem]) ?_
    simp only [go_sem, Nat.reduceEqDiff, reduceIte, Nat.reduceAdd, Nat.reduceMul, Nat.reduceLeDiff]
    exact fr_set rfl
end Go.Proofs.YtikkmcchhddfoaaGreatDoor.KM
