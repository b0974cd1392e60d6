/- Walks: the program's Decode. -/
import Derived.Test.YtikkmcchhddfoaaGreatDoorDh
import Derived.Test.YtikkmcchhddfoaaGreatDoorDb
import Derived.Test.YtikkmcchhddfoaaGreatDoorSd
set_option linter.all false
namespace Go.Proofs.YtikkmcchhddfoaaGreatDoor.KM
open Go
/-! the table with decodeBody -/
theorem Ev.mono {T : Nat → Option AF} {pr pr2 : Nat → Option (List V → Option V)} (hp : ∀ f s, pr f = some s → pr2 f = some s) {j : J} (h : Ev T pr j) : Ev T pr2 j := by
  induction h with
  | opsNil => exact .opsNil
  | opsSkip h1 _ ih => exact .opsSkip h1 ih
  | opsVal h1 h2 _ ih => exact .opsVal h1 h2 ih
  | opsPrim h1 h2 h3 h4 h5 _ ih => exact .opsPrim h1 h2 (hp _ _ h3) h4 h5 ih
  | opsPure h1 h2 h3 h4 h5 h6 _ h8 _ ih1 ih2 => exact .opsPure h1 h2 h3 h4 h5 h6 ih1 h8 ih2
  | opsOwn h1 h2 h3 h4 h5 h6 _ _ ih1 ih2 => exact .opsOwn h1 h2 h3 h4 h5 h6 ih1 ih2
  | opsAny h1 h2 h3 h4 _ _ ih1 ih2 => exact .opsAny h1 h2 h3 h4 ih1 ih2
  | opsThr h1 h2 h3 h4 h5 _ _ ih1 ih2 => exact .opsThr h1 h2 h3 h4 h5 ih1 ih2
  | opsSpec h1 h2 h3 h4 h5 h6 _ ih => exact .opsSpec h1 h2 h3 h4 h5 h6 ih
  | fn h1 h2 h3 _ h5 h6 h7 h8 ih => exact .fn h1 h2 h3 ih h5 h6 h7 h8
  | fnL h1 h2 h3 _ h5 h6 ih => exact .fnL h1 h2 h3 ih h5 h6
  | fnS h1 h2 h3 _ h5 h6 h7 h8 h9 ih => exact .fnS h1 h2 h3 ih h5 h6 h7 h8 h9
  | cNil => exact .cNil
  | cSkip _ ih => exact .cSkip ih
  | cReg _ _ i1 i2 => exact .cReg i1 i2
  | cDrw E2 _ h2 _ i1 i2 => exact .cDrw E2 i1 h2 i2
  | cSeq _ ih => exact .cSeq ih
  | cCond h _ ih => exact .cCond h ih
  | cBlk _ ih => exact .cBlk ih
  | cEnd _ ih => exact .cEnd ih
  | cLoop _ ih => exact .cLoop ih
  | cAgain _ ih => exact .cAgain ih
  | cExit h _ ih => exact .cExit h ih
  | cRet => exact .cRet
def PT2 (f : Nat) : Option (List V → Option V) := if f = 69 then some decodeS else PT f
theorem pt_pt2 : ∀ f s, PT f = some s → PT2 f = some s := by
  intro f s h
  unfold PT2
  split
  · rename_i he
    rw [he] at h
    cases h
  · exact h
theorem fnm {f : Nat} {vs : List V} {v : V} (h : Fn TT PT f vs v) : Fn TT PT2 f vs v := by
  obtain ⟨F, h1, h2, h3, v0, σ0, hE, hb⟩ := h
  exact ⟨F, h1, h2, h3, v0, σ0, hE.mono pt_pt2, hb⟩
theorem thm2 {f : Nat} {vs : List V} {v : V} {σ σ' : St} (h : Th TT PT f vs σ v σ') : Th TT PT2 f vs σ v σ' := by
  obtain ⟨F, h1, h2, h3, hE⟩ := h
  exact ⟨F, h1, h2, h3, hE.mono pt_pt2⟩
theorem hP2 {m : Int} : ∀ f s, PT2 f = some s → PrimOk Tryz.prog (GT m) f s := by
  intro f s h
  unfold PT2 at h
  split at h
  · rename_i he
    cases h
    rw [he]
    exact decodeBody_ok _
  · exact hPT f s h
/-! bytes -/
theorem byt_app {a b : List Int} (ha : Byt a) (hb : Byt b) : Byt (a ++ b) := fun x hx => by
  rcases List.mem_append.1 hx with h | h
  · exact ha x h
  · exact hb x h
theorem byt_wrap (x : Int) : 0 ≤ IntKind.u8.wrap x ∧ IntKind.u8.wrap x < 256 := by
  rw [u8_wrap]
  omega
theorem byt_1 (x : Int) : Byt [IntKind.u8.wrap x] := fun y hy => by
  rw [List.mem_singleton.1 hy]
  exact byt_wrap x
theorem varI_byt : ∀ (k : Nat) (u : Int), Byt (varI k u)
  | 0, u => byt_1 u
  | k + 1, u => by
    unfold varI
    split
    · intro y hy
      rcases List.mem_cons.1 hy with rfl | hy
      · exact byt_wrap _
      · exact varI_byt k _ y hy
    · exact byt_1 u
theorem byt_flat {α : Type} {f : α → List Int} (h : ∀ x, Byt (f x)) (l : List α) : Byt ((l.map f).flatten) := by
  intro y hy
  obtain ⟨r, hr, hy⟩ := List.mem_flatten.1 hy
  obtain ⟨x, -, rfl⟩ := List.mem_map.1 hr
  exact h x y hy
theorem varsL_byt (ns : List Int) : Byt (varsL ns) := byt_flat (fun n => varI_byt 10 (zig n)) ns
theorem keyBy_byt (k : Key) : Byt (keyBy k) := byt_app (varsL_byt _) (byt_app (str_in _) (byt_app (varsL_byt _) (str_in _)))
theorem entBy_byt (e : Ent) : Byt (entBy e) := byt_app (varsL_byt _) (byt_flat keyBy_byt _)
theorem bodyI_byt (n : Int) (b : List Ent) : Byt (bodyI n b) := byt_app (fun x hx => by
  simp only [List.mem_cons, List.not_mem_nil, or_false] at hx
  omega) (byt_app (varsL_byt _) (byt_flat entBy_byt _))
theorem sum4_byt (s : Int) : Byt (sum4 s) := by
  intro x hx
  simp only [sum4, List.mem_cons, List.not_mem_nil, or_false] at hx
  rcases hx with rfl | rfl | rfl | rfl <;> exact byt_wrap _
theorem enc_byt (n : Int) (b : List Ent) : Byt (encI n b) := byt_app (bodyI_byt n b) (sum4_byt _)
theorem byt_eq {a b : List Int} (ha : Byt a) (hb : Byt b) : (byt a == byt b) = decide (a = b) := by
  by_cases h : a = b
  · subst h; simp
  · have : ¬ byt a = byt b := fun hh => h (by rw [← str_byt ha, ← str_byt hb, hh])
    simp [h, this]
theorem beq_fn (z z' : Bool) (t t' : Nat) {a b : List Int} (ha : Byt a) (hb : Byt b) : Fn TT PT 70 [SL z t (bI a), SL z' t' (bI b)] (.bool (decide (a = b))) := by
  refine Fn_go T70 rfl ?_
  have h1 := rowsByte_bI ha
  have h2 := rowsByte_bI hb
  rw [← byt_eq ha hb]
  simp only [go_sem, Nat.reduceEqDiff, reduceIte, Nat.reduceAdd, Nat.reduceMul, Nat.reduceLeDiff, h1, h2]
  exact fr_set rfl
/-! how much is read -/
theorem numR_le {most n : Int} {l r : List Int} (h : numR most l = some (n, r)) : 0 ≤ n ∧ n ≤ most := by
  unfold numR at h
  split at h
  · split at h
    · rename_i hn; cases h; exact hn
    · cases h
  · cases h
theorem keysR_len : ∀ (c : Nat) (l : List Int) (ks : List Key) (r : List Int), keysR c l = some (ks, r) → ks.length = c
  | 0, l, ks, r, h => by cases h; rfl
  | c + 1, l, ks, r, h => by
    simp only [keysR] at h
    repeat' split at h
    all_goals first | cases h | skip
    rename_i hk
    have := keysR_len c _ _ _ hk
    simp [this]
theorem entR_len {l : List Int} {e : Ent} {r : List Int} (h : entR l = some (e, r)) : e.sites.length ≤ 4 := by
  unfold entR at h
  repeat' split at h
  all_goals first | cases h | skip
  rename_i hd _ _ hk
  have h1 := keysR_len _ _ _ _ hk
  have h2 := numR_le hd
  simp only [h1]
  omega
theorem entsR_len : ∀ (c : Nat) (l : List Int) (es : List Ent) (r : List Int), entsR c l = some (es, r) → es.length = c ∧ ∀ e ∈ es, e.sites.length ≤ 4
  | 0, l, es, r, h => by cases h; exact ⟨rfl, fun e he => by cases he⟩
  | c + 1, l, es, r, h => by
    simp only [entsR] at h
    repeat' split at h
    all_goals first | cases h | skip
    rename_i he _ _ hes
    obtain ⟨h1, h2⟩ := entsR_len c _ _ _ hes
    refine ⟨by simp [h1], fun e hm => ?_⟩
    rcases List.mem_cons.1 hm with rfl | hm
    · exact entR_len he
    · exact h2 e hm
theorem decA_len {l : List Int} {n : Int} {es : List Ent} (h : decA l = some (n, es)) : es.length ≤ 64 ∧ ∀ e ∈ es, e.sites.length ≤ 4 := by
  unfold decA at h
  repeat' split at h
  all_goals first | cases h | skip
  rename_i hc _ _ _ he
  obtain ⟨h1, h2⟩ := entsR_len _ _ _ _ he
  have := numR_le hc
  exact ⟨by omega, h2⟩
theorem okE_4 {l : List Ent} (h : ∀ e ∈ l, e.sites.length ≤ 4) : okE l := fun e he => by have := h e he; omega
/-! the whole -/
def decR (x : List Int) : (Int × List Ent) × Int :=
  if x.length < 8 then ((0, []), 9) else if x.drop (x.length - 4) = sum4 (sumI (x.take (x.length - 4))) then resDA x (x.take (x.length - 4)) else ((0, []), 10)
def decVv (p : (Int × List Ent) × Int) : V := .tup [.agg [.int .i64 p.1.1, SL true 0 (p.1.2.map Ent.row)], .int .i64 p.2]
theorem eqFl4 (a b c d a' b' c' d' : Int) : eqFl [1, 1, 1, 1] (.agg [.int .u8 a, .int .u8 b, .int .u8 c, .int .u8 d]) (.agg [.int .u8 a', .int .u8 b', .int .u8 c', .int .u8 d']) = some (decide ([a, b, c, d] = [a', b', c', d'])) := by
  simp only [eqFl, List.length_cons, List.length_nil, and_self, if_true, eqRow, eqS]
  by_cases h1 : a = a'
  · by_cases h2 : b = b'
    · by_cases h3 : c = c'
      · by_cases h4 : d = d'
        · simp [h1, h2, h3, h4]
        · simp [h1, h2, h3, h4]
      · simp [h1, h2, h3]
    · simp [h1, h2]
  · simp [h1]
theorem drop_four {x : List Int} (h : 8 ≤ x.length) : ∃ a b c d, x.drop (x.length - 4) = [a, b, c, d] := by
  have hl : (x.drop (x.length - 4)).length = 4 := by simp; omega
  match x.drop (x.length - 4), hl with
  | [a, b, c, d], _ => exact ⟨a, b, c, d, rfl⟩
theorem decode_fn (z : Bool) (t : Nat) {x : List Int} (hB : Byt x) (hl : x.length ≤ 1000000000) : Fn TT PT2 30 [SL z t (bI x)] (decVv (decR x)) := by
  refine Fn_go T30 rfl ?_
  by_cases h8 : x.length < 8
  · have f8 : ((x.length : Int) < 8) = True := eq_true (by omega)
    have hR : decR x = ((0, []), 9) := by unfold decR; rw [if_pos h8]
    rw [hR]
    simp only [go_sem, Nat.reduceEqDiff, reduceIte, Nat.reduceAdd, Nat.reduceMul, Nat.reduceLeDiff, bI_n, f8]
    exact fr_tup rfl
  · have f8 : ((x.length : Int) < 8) = False := eq_false (by omega)
    have ws : IntKind.i64.wrap ((x.length : Int) - 4) = ((x.length - 4 : Nat) : Int) := by rw [wrap64 (by omega)]; omega
    obtain ⟨z1, t1, c1⟩ := sl_cut_hi z t 1 (bI x) .i64 (x.length - 4) (by rw [bI_n]; omega)
    obtain ⟨z2, t2, c2⟩ := sl_cut_lo z t 1 (bI x) .i64 (x.length - 4) (by rw [bI_n]; omega) (bI_len x)
    have e1 : (bI x).take (x.length - 4) = bI (x.take (x.length - 4)) := by unfold bI; rw [List.map_take]
    have e2 : (bI x).drop (x.length - 4) = bI (x.drop (x.length - 4)) := by unfold bI; rw [List.map_drop]
    rw [e1] at c1
    rw [e2] at c2
    obtain ⟨a, b, c, d, ht⟩ := drop_four (x := x) (by omega)
    have hbl : (x.take (x.length - 4)).length = x.length - 4 := by simp
    have hbB := byt_take hB (x.length - 4)
    have hs := sumB_fn z1 t1 (x.take (x.length - 4)) (by omega)
    have hd := decodeS_SL z1 t1 hbB (by omega) (by omega)
    have hR0 : decR x = if x.drop (x.length - 4) = sum4 (sumI (x.take (x.length - 4))) then resDA x (x.take (x.length - 4)) else ((0, []), 10) := by unfold decR; rw [if_neg h8]
    rw [ht] at c2 hR0
    generalize x.take (x.length - 4) = body at c1 c2 hbl hbB hs hd hR0
    have c2 : slcV 1 (SL z t (bI x)) (some (.int .i64 ((x.length - 4 : Nat) : Int))) none none = some (.lst t2 [[.int .u8 a], [.int .u8 b], [.int .u8 c], [.int .u8 d]]) := by
      rw [c2]
      unfold SL
      rw [if_neg fun h => by simp [bI] at h]
      rfl
    have hq := eqFl4 a b c d (IntKind.u8.wrap (sumI body)) (IntKind.u8.wrap ((sumI body).fdiv (2 ^ min 8 32))) (IntKind.u8.wrap ((sumI body).fdiv (2 ^ min 16 32))) (IntKind.u8.wrap ((sumI body).fdiv (2 ^ min 24 32)))
    rw [show [IntKind.u8.wrap (sumI body), IntKind.u8.wrap ((sumI body).fdiv (2 ^ min 8 32)), IntKind.u8.wrap ((sumI body).fdiv (2 ^ min 16 32)), IntKind.u8.wrap ((sumI body).fdiv (2 ^ min 24 32))] = sum4 (sumI body) from rfl] at hq
    have hs : Fn TT PT 68 [SL z1 t1 (bI body)] (.agg [.int .u8 (IntKind.u8.wrap (sumI body)), .int .u8 (IntKind.u8.wrap ((sumI body).fdiv (2 ^ min 8 32))), .int .u8 (IntKind.u8.wrap ((sumI body).fdiv (2 ^ min 16 32))), .int .u8 (IntKind.u8.wrap ((sumI body).fdiv (2 ^ min 24 32)))]) := hs
    have h04 : (0 < 4) = True := eq_true (by decide)
    by_cases hsum : [a, b, c, d] = sum4 (sumI body)
    · rw [if_pos hsum] at hR0
      rw [decide_eq_true hsum] at hq
      simp only [go_sem, Nat.reduceEqDiff, reduceIte, Nat.reduceAdd, Nat.reduceMul, Nat.reduceLeDiff, bI_n, f8, ws, c1]
      refine w_drw (by kernel_rfl) ?_
      simp only [go_sem, Nat.reduceEqDiff, reduceIte, Nat.reduceAdd, Nat.reduceMul, Nat.reduceLeDiff, bI_n, ws, c2, h04, beq_self_eq_true]
      refine wgx_fn (fnm hs) (by simp only [go_sem]) ?_
      simp only [go_sem, Nat.reduceEqDiff, reduceIte, Nat.reduceAdd, Nat.reduceMul, Nat.reduceLeDiff, hq]
      refine wx_pr (show PT2 69 = some decodeS from rfl) (by simp only [go_sem]) hd ?_
      unfold resDA at hR0
      unfold decV
      cases hA : decA body with
      | none =>
        rw [hA] at hR0
        rw [hR0]
        simp only [go_sem, Nat.reduceEqDiff, reduceIte, Nat.reduceAdd, Nat.reduceMul, Nat.reduceLeDiff]
        exact fr_tup rfl
      | some p =>
        obtain ⟨n, es⟩ := p
        rw [hA] at hR0
        simp only at hR0 ⊢
        obtain ⟨k1, k2⟩ := decA_len hA
        have he := encode_fn true 0 n es (okE_4 k2)
        unfold encV at he
        cases hb : validB n es
        · rw [hb] at he
          rw [if_neg (by rw [hb]; simp)] at hR0
          rw [hR0]
          simp only [go_sem, Nat.reduceEqDiff, reduceIte, Nat.reduceAdd, Nat.reduceMul, Nat.reduceLeDiff]
          refine wx_fn (fnm he) (by simp only [go_sem]) ?_
          simp only [go_sem, Nat.reduceEqDiff, reduceIte, Nat.reduceAdd, Nat.reduceMul, Nat.reduceLeDiff, Int.reduceBNe]
          exact fr_tup rfl
        · rw [hb] at he
          by_cases hx : encI n es = x
          · have hq2 := beq_fn true z 0 t (enc_byt n es) hB
            rw [decide_eq_true hx] at hq2
            rw [if_pos ⟨hb, hx⟩] at hR0
            rw [hR0]
            simp only [go_sem, Nat.reduceEqDiff, reduceIte, Nat.reduceAdd, Nat.reduceMul, Nat.reduceLeDiff]
            refine wx_fn (fnm he) (by simp only [go_sem]) ?_
            simp only [go_sem, Nat.reduceEqDiff, reduceIte, Nat.reduceAdd, Nat.reduceMul, Nat.reduceLeDiff, Int.reduceBNe]
            refine wx_fn (fnm hq2) (by simp only [go_sem]) ?_
            simp only [go_sem, Nat.reduceEqDiff, reduceIte, Nat.reduceAdd, Nat.reduceMul, Nat.reduceLeDiff]
            refine fr_tup ?_
            simp only [go_sem]
          · have hq2 := beq_fn true z 0 t (enc_byt n es) hB
            rw [decide_eq_false hx] at hq2
            rw [if_neg fun h => hx h.2] at hR0
            rw [hR0]
            simp only [go_sem, Nat.reduceEqDiff, reduceIte, Nat.reduceAdd, Nat.reduceMul, Nat.reduceLeDiff]
            refine wx_fn (fnm he) (by simp only [go_sem]) ?_
            simp only [go_sem, Nat.reduceEqDiff, reduceIte, Nat.reduceAdd, Nat.reduceMul, Nat.reduceLeDiff, Int.reduceBNe]
            refine wx_fn (fnm hq2) (by simp only [go_sem]) ?_
            simp only [go_sem, Nat.reduceEqDiff, reduceIte, Nat.reduceAdd, Nat.reduceMul, Nat.reduceLeDiff]
            exact fr_tup rfl
    · rw [if_neg hsum] at hR0
      rw [decide_eq_false hsum] at hq
      rw [hR0]
      simp only [go_sem, Nat.reduceEqDiff, reduceIte, Nat.reduceAdd, Nat.reduceMul, Nat.reduceLeDiff, bI_n, f8, ws, c1]
      refine w_drw (by kernel_rfl) ?_
      simp only [go_sem, Nat.reduceEqDiff, reduceIte, Nat.reduceAdd, Nat.reduceMul, Nat.reduceLeDiff, bI_n, ws, c2, h04, beq_self_eq_true]
      refine wgx_fn (fnm hs) (by simp only [go_sem]) ?_
      simp only [go_sem, Nat.reduceEqDiff, reduceIte, Nat.reduceAdd, Nat.reduceMul, Nat.reduceLeDiff, hq]
      exact fr_tup rfl
end Go.Proofs.YtikkmcchhddfoaaGreatDoor.KM
