/- decodeBody is known by what it returns. -/
import Derived.Test.YtikkmcchhddfoaaGreatDoorDg
set_option linter.all false
namespace Go.Proofs.YtikkmcchhddfoaaGreatDoor.KM
open Go Go.RowKit
def rowsI : List (List V) → Option (List Int)
  | [] => some []
  | [.int .u8 n] :: r => if 0 ≤ n ∧ n < 256 then (rowsI r).map (n :: ·) else none
  | _ => none
theorem rowsI_bI : ∀ {xs : List (List V)} {l : List Int}, rowsI xs = some l → xs = bI l ∧ Byt l
  | [], l, h => by cases h; exact ⟨rfl, fun x hx => by cases hx⟩
  | r :: xs, l, h => by
    unfold rowsI at h
    split at h
    · rename_i he; cases he
    · rename_i n r' he
      cases he
      split at h
      · rename_i hn
        cases hr : rowsI xs with
        | none => rw [hr] at h; cases h
        | some l' =>
          rw [hr] at h
          cases h
          obtain ⟨rfl, hB⟩ := rowsI_bI hr
          refine ⟨rfl, fun x hx => ?_⟩
          rcases List.mem_cons.1 hx with rfl | hx
          · exact hn
          · exact hB x hx
      · cases h
    · cases h
theorem rowsI_of : ∀ {l : List Int}, Byt l → rowsI (bI l) = some l
  | [], _ => rfl
  | x :: l, h => by
    have h1 := h x List.mem_cons_self
    have h2 := rowsI_of (l := l) fun y hy => h y (List.mem_cons_of_mem _ hy)
    unfold bI at h2 ⊢
    simp only [List.map_cons, rowsI]
    rw [if_pos h1, h2]
    rfl
def listI : V → Option (List Int)
  | .nils => some []
  | .lst _ xs => rowsI xs
  | _ => none
def decV (l : List Int) : V :=
  match decA l with
  | some (n, es) => .tup [.agg [.int .i64 n, SL true 0 (es.map Ent.row)], .bool true]
  | none => .tup [.agg [.int .i64 0, .nils], .bool false]
def decodeS : List V → Option V
  | [x] => (listI x).bind fun l => if 4 ≤ l.length ∧ l.length ≤ 1000000000 then some (decV l) else none
  | _ => none
theorem decodeS_SL (z : Bool) (t : Nat) {l : List Int} (hB : Byt l) (h4 : 4 ≤ l.length) (hl : l.length ≤ 1000000000) : decodeS [SL z t (bI l)] = some (decV l) := by
  have hn : bI l ≠ [] := fun h => by
    have h1 := congrArg List.length h
    rw [bI_n] at h1
    have h1 : l.length = 0 := h1
    omega
  unfold SL
  rw [if_neg fun h => hn h.2]
  simp only [decodeS, listI, rowsI_of hB, Option.bind_some]
  rw [if_pos ⟨h4, hl⟩]
theorem decodeS_some {vs : List V} {v : V} (h : decodeS vs = some v) : ∃ z t l, vs = [SL z t (bI l)] ∧ Byt l ∧ 4 ≤ l.length ∧ l.length ≤ 1000000000 ∧ v = decV l := by
  unfold decodeS at h
  split at h
  · rename_i x
    cases hx : listI x with
    | none => rw [hx] at h; cases h
    | some l =>
      rw [hx] at h
      simp only [Option.bind_some] at h
      split at h
      · rename_i hl
        cases h
        have hx2 : (x = .nils ∧ l = []) ∨ ∃ t xs, x = .lst t xs ∧ rowsI xs = some l := by
          cases x <;> simp [listI] at hx
          · exact .inl ⟨rfl, hx⟩
          · exact .inr ⟨_, _, rfl, hx⟩
        rcases hx2 with ⟨-, rfl⟩ | ⟨t, xs, rfl, hx⟩
        · simp at hl
        · obtain ⟨rfl, hB⟩ := rowsI_bI hx
          exact ⟨false, t, l, rfl, hB, hl.1, hl.2, rfl⟩
      · cases h
  · cases h
section
variable {P : Program} {G : List (Nat × List V)}
/-- two results at a frame's end, settled -/
theorem res_end2 {fn : Func} {n N : Nat} {γ : Gh} {σ : St} {w : World} {e : Env} {tm : Array Value} {r1 r2 : AR} {v0 v : V} (hE : RepE γ w e tm) (hI : Inv G N γ σ w) (hR : okRs2 P n [r1, r2] fn.results.toList = true) (hres : resV e σ [r1, r2] = some v0) (hok : okRes v0 = true) (hb : back σ v0 = some v) :
    ∃ u κ', (results fn tm).run P w = .ok u w ∧ RepV ⟨κ', []⟩ w v u ∧ (∀ b, b < N → κ' b = γ.κ b) ∧ ∀ b k, κ' b = some k → b < w.heap.size := by
  have hmap : ∀ us' : List Value, (fn.results.toList.mapM (resSem tm)).run P w = .ok us' w → (results fn tm).run P w = .ok (if h : us'.toArray.size = 1 then us'.toArray[0] else .tuple us'.toArray) w := fun us' h => by
    have e1 : results fn tm = (do let vs ← fn.results.mapM (resSem tm); pure (if h : vs.size = 1 then vs[0] else .tuple vs)) := by
      unfold results
      congr 2
    rw [e1, Array.mapM_eq_mapM_toList]
    simp [h]
  have hresults : ∃ u, (results fn tm).run P w = .ok u w ∧ RepV γ w v0 u := by
    unfold resV at hres
    simp only [Option.map_eq_some_iff] at hres
    obtain ⟨vs, hm, rfl⟩ := hres
    obtain ⟨us', k1, k2, k3, k4⟩ := run_res (P := P) hE hI hR hm
    have hl1 : us'.length ≠ 1 := fun h1 => by
      have := (mapM_get hm).1
      simp at this
      omega
    refine ⟨.tuple us'.toArray, by simpa [hl1] using hmap us' k1, .tup k2 (fun j hj => ?_)⟩
    refine rep1_of ?_ (k4 j hj)
    exact List.all_eq_true.1 (show vs.all okRes1 = true from hok) (vs.getD j .und) (by rw [List.getD_eq_getElem?_getD, List.getElem?_eq_getElem hj]; exact List.getElem_mem hj)
  obtain ⟨u, hu, hv⟩ := hresults
  obtain ⟨κ2, y1, y2, y3, y4, _⟩ := hI.freeze (clo σ 9 v0.refs.eraseDups)
  exact ⟨u, κ2, hu, settleV_rep hI y2 y4 hb hv [], y3, y1.dom⟩
end
def dA0 : AC := match D0.af69.body with
  | .seq c _ => c
  | c => c
theorem back_pair {σ : St} {a b a' b' : V} (h1 : OV σ a a') (h2 : OV σ b b') : back σ (.tup [a, b]) = some (.tup [a', b']) := by
  unfold back settleV
  exact congrArg (Option.map V.tup) (ovs_map (.cons h1 (.cons h2 .nil)) fun j hj => cloL_sub σ 9 _ j (List.mem_eraseDups.2 hj))
theorem d_w0 (x : V) : W D0.T0 D0.P0 [.c dA0] [(0, x)] [] fun e σ => e = [(0, x), (2, .ptr 0 0 0), (3, .ptr 1 0 0)] ∧ σ = [bO 0 .nils, okO false] := by
  dsimp only [dA0, D0.af69]
  simp only [go_sem, Nat.reduceEqDiff, reduceIte, Nat.reduceAdd, Nat.reduceMul, Nat.reduceLeDiff, Int.reduceLT, Int.reduceLE, Int.reduceToNat, Int.reduceAdd, Int.reduceNeg, Int.reduceEq]
  first | exact ⟨rfl, rfl⟩ | rfl
theorem d_body : ∃ O0 O1 R, Tryz.f69.body = some (.seq (.region 0 O0 false) (.seq (.region 1 O1 false) R)) ∧ okC Tryz.prog [] 49 dA0 (.region 0 O0 false) = true ∧ okC Tryz.prog [] 49 D0.rest R = true ∧
    ∀ {γ : Gh} {w : World} {x : V} {a : Act}, a.tmps.size = 49 → a.defers = [] → RepE γ w [(0, x), (2, .ptr 0 0 0), (3, .ptr 1 0 0)] a.tmps →
    wpOps Tryz.prog O1 (fun ex a' w' => ex = .normal ∧ w' = w ∧ a'.tmps.size = 49 ∧ RepE γ w [(0, x), (2, .ptr 0 0 0), (3, .ptr 1 0 0)] a'.tmps ∧ a'.defers = [{ target := .fn (.func 120) #[a.tmps.getD 2 undef, a.tmps.getD 3 undef], args := #[] }]) (List.range O1.size) a w := by
  refine ⟨_, _, _, rfl, by kernel_rfl, by kernel_rfl, fun {γ w x a} ha hd hE => ?_⟩
  have hE7 : ∀ y : Value, RepE γ w [(0, x), (2, .ptr 0 0 0), (3, .ptr 1 0 0)] (a.tmps.setIfInBounds 7 y) := by
    intro y m
    by_cases hm : m = 7
    · subst hm
      exact .und
    · have := hE m
      rw [Array.getD_eq_getD_getElem?] at this ⊢
      rw [Array.getElem?_setIfInBounds_ne (Ne.symm hm)]
      exact this
  simp [wpOps, go_sem, ha, hd]
  exact .inl (.inl (hE7 _))
/-- decodeBody is known by what it returns -/
theorem decodeBody_ok (G : List (Nat × List V)) : PrimOk Tryz.prog G 69 decodeS := by
  refine ⟨⟨_, _, Tryz.func69, rfl, by decide⟩, fun κ w vs us v _ _ hd hlen hrep hv => ?_⟩
  obtain ⟨z, t, l, rfl, hB, h4, hl, rfl⟩ := decodeS_some hv
  have hI : Inv [] w.heap.size ⟨κ, []⟩ [] w :=
    { base := Nat.le_refl _, len := rfl, nd := List.nodup_nil, low := fun i p h => by simp at h, obj := fun i ob p h => by simp at h, dom := hd, glob := fun _ _ h => (by cases h), gsz := fun _ _ h => (by cases h) }
  obtain ⟨O0, O1, R, hbody, k0, kR, hdef⟩ := d_body
  have hf := Tryz.func69
  have hn : Tryz.f69.ntmps = 49 := rfl
  have hul : us.length = 1 := by simpa using hlen.symm
  intro cs
  let b : Frame := { (default : Frame) with fn := 69, kind := .normal }
  have hsz : (us.toArray ++ Array.replicate (Tryz.f69.ntmps - us.toArray.size) undef).size = 49 := by simp [hn]; omega
  have henter : Frame.enter Tryz.prog 69 us.toArray .normal = b.at { tmps := us.toArray ++ Array.replicate (Tryz.f69.ntmps - us.toArray.size) undef, defers := [] } [.code (.seq (.region 0 O0 false) (.seq (.region 1 O1 false) R))] := by
    simp [Frame.enter, Frame.at, hf, hbody, b]
  have hE0 : RepE ⟨κ, []⟩ w [(0, SL z t (bI l))] (us.toArray ++ Array.replicate (Tryz.f69.ntmps - us.toArray.size) undef) := by
    intro m
    match m with
    | 0 =>
      have := hrep 0 (by simp)
      have e1 : (us.toArray ++ Array.replicate (Tryz.f69.ntmps - us.toArray.size) undef).getD 0 undef = us.getD 0 undef := by
        rw [Array.getD_eq_getD_getElem?, Array.getElem?_append_left (by simp; omega), List.getElem?_toArray, List.getD_eq_getElem?_getD]
      rw [e1]
      exact .one this
    | m + 1 =>
      rw [show Env.get [(0, SL z t (bI l))] (m + 1) = .und by simp [Env.get]]
      exact .und
  generalize us.toArray ++ Array.replicate (Tryz.f69.ntmps - us.toArray.size) undef = T0 at hsz henter hE0
  rw [henter]
  obtain ⟨e1, σ1, hEv, he, rfl⟩ := w_ops (d_w0 (SL z t (bI l)))
  have wp0 := reg_wp (id := 0) (n := 49) (N := w.heap.size) (a := { tmps := T0, defers := [] }) (γ := ⟨κ, []⟩) (w := w) (D := []) (Q := fun ex a' w' => ex = .normal ∧ Leaves [] w.heap.size 49 [] ⟨κ, []⟩ [] w e1 [bO 0 .nils, okO false] a' w') D0.hT0 D0.hS0 D0.hP0 k0 hEv hsz rfl hE0 hI (fun a' w' h => ⟨rfl, h⟩)
  obtain ⟨ex, a1, w1, ⟨rfl, γ1, q1, q2, q3, q4, q5, q6, q7⟩, harr0⟩ := wp_ops _ _ w wp0 b [.code (.seq (.region 1 O1 false) R)] cs
  have q1' : RepE γ1 w1 [(0, SL z t (bI l)), (2, .ptr 0 0 0), (3, .ptr 1 0 0)] a1.tmps := by
    rw [← he]
    exact q1.del _
  obtain ⟨ex, a2, w2, ⟨rfl, rfl, p1, p2, p3⟩, harr1⟩ := wp_ops _ _ w1 (hdef q6 q7 q1') b [.code R] cs
  have st : Steps Tryz.prog (lone (b.at { tmps := T0, defers := [] } [.code (.seq (.region 0 O0 false) (.seq (.region 1 O1 false) R))]) cs w) (lone (b.at a2 [.code R]) cs w2) := .head step_seq (.head step_region (Steps.trans harr0 (.head step_seq (.head step_region harr1))))
  obtain ⟨r, hX, hQ⟩ := dec_x z t h4 hl hB
  have hpan : ∀ f, D0.pan f = true → PanOk Tryz.prog f := fun f h => by rw [eq_of_beq h]; exact wrong_pan
  have hx := shownX_code.1 (soundX D0.hT0 D0.hS0 D0.hP0 hpan hX) 49 _ [.code R] a2 w2 γ1 w.heap.size (.c kR .nil) p1 p3 p2 q2 b cs
  have hp2 := q1' 2
  have hp3 := q1' 3
  rw [show Env.get [(0, SL z t (bI l)), (2, .ptr 0 0 0), (3, .ptr 1 0 0)] 2 = .ptr 0 0 0 from rfl] at hp2
  rw [show Env.get [(0, SL z t (bI l)), (2, .ptr 0 0 0), (3, .ptr 1 0 0)] 3 = .ptr 1 0 0 from rfl] at hp3
  have hinv : ∀ w' : World, (invoke (.fn (.func 120) #[a1.tmps.getD 2 undef, a1.tmps.getD 3 undef]) #[]).run Tryz.prog w' = .ok (.enter 120 #[a1.tmps.getD 2 undef, a1.tmps.getD 3 undef]) w' := fun w' => by simp [go_sem]
  have fin : ∀ {γ' : Gh} {σ' : St} {w' : World} {e' : Env} {tm : Array Value} {v0 : V}, RepE γ' w' e' tm → Inv [] w.heap.size γ' σ' w' → Below w.heap.size w2 w' → (∀ b, b < w.heap.size → γ'.κ b = γ1.κ b) → resV e' σ' [.cell 2 2 false, .cell 3 1 true] = some v0 → okRes v0 = true → back σ' v0 = some (decV l) →
      Go.Leaves Tryz.prog Tryz.f69 tm (fun e w' => ∃ u κ', e = .returned u ∧ RepV ⟨κ', []⟩ w' (decV l) u ∧ Below w.heap.size w w' ∧ (∀ b, b < w.heap.size → κ' b = κ b) ∧ ∀ b k, κ' b = some k → b < w'.heap.size) [] .returning w' := by
    intro γ' σ' w' e' tm v0 g1 g2 g3 g4 hres hok hbk
    obtain ⟨v, κ', hr, hv', hk, hdom⟩ := res_end2 (fn := Tryz.f69) (n := 49) (P := Tryz.prog) g1 g2 (by kernel_rfl) hres hok hbk
    exact ⟨v, hr, v, κ', rfl, hv', q4.trans g3, fun b hb => (hk b hb).trans ((g4 b hb).trans (q5 b hb)), hdom⟩
  cases r with
  | ok e' σ' =>
    obtain ⟨a', w', todo', hs, γ', g1, g2, g3, g4, g5, g6, g7⟩ := hx
    obtain ⟨n, es, u, hdec, e2, e3, s0', s1', hu⟩ := hQ
    have hres : resV e' σ' [.cell 2 2 false, .cell 3 1 true] = some (.tup [.agg [.int .i64 n, u], .bool true]) := by
      simp [resV, resOne, e2, e3, loadV, s0', s1', bO, okO, mkOne]
    have hbk : back σ' (.tup [.agg [.int .i64 n, u], .bool true]) = some (decV l) := by
      unfold decV
      rw [hdec]
      exact back_pair (ov_agg (.cons (oc_row rfl) (.cons (gw_oc hu (by omega) (erows_len _) (erows_row _)) .nil))) (ov_set rfl)
    have hok : okRes (.tup [.agg [.int .i64 n, u], .bool true]) = true := by
      have hw := gw_cell hu
      simp only [okRes, okRes1, List.all_cons, List.all_nil, Bool.and_true, hw]
      rfl
    have hL : Go.Leaves Tryz.prog Tryz.f69 a'.tmps (fun e w' => ∃ u κ', e = .returned u ∧ RepV ⟨κ', []⟩ w' (decV l) u ∧ Below w.heap.size w w' ∧ (∀ b, b < w.heap.size → κ' b = κ b) ∧ ∀ b k, κ' b = some k → b < w'.heap.size) [{ target := .fn (.func 120) #[a1.tmps.getD 2 undef, a1.tmps.getD 3 undef], args := #[] }] .returning w' := by
      refine leaves_cons (by simp) (hinv w') ((catch_idle _ _ w').mono ?_)
      rintro e u' w'' ⟨rfl, rfl, rfl⟩
      exact fin g1 g2 g4 g5 hres hok hbk
    obtain ⟨e'', w'', fr', hR, hs2, hfn, hlv⟩ := leaves_steps _ .returning w' { b.at a' todo' with mode := .returning } cs rfl g7 rfl hf rfl hL
    exact ⟨e'', w'', fr', hR, Comes.of_steps (Steps.trans st hs) hs2, hfn, hlv⟩
  | pan e' σ' =>
    obtain ⟨ch, a', w', todo', ⟨ty, y, rfl⟩, hs, γ', g1, g2, g3, g4, g5, g6, g7⟩ := hx
    obtain ⟨hdec, e2, e3, ⟨n, u, s0'⟩, zz, s1'⟩ := hQ
    have l0 := (List.getElem?_eq_some_iff.1 s0').1
    have l1 := (List.getElem?_eq_some_iff.1 s1').1
    have t0 : ((σ'.set 0 (bO 0 .nils)).set 1 (okO false))[0]? = some (bO 0 .nils) := by
      rw [List.getElem?_set_ne (by omega)]
      exact List.getElem?_set_self l0
    have t1 : ((σ'.set 0 (bO 0 .nils)).set 1 (okO false))[1]? = some (okO false) := List.getElem?_set_self (by rw [List.length_set]; exact l1)
    have hres : resV e' ((σ'.set 0 (bO 0 .nils)).set 1 (okO false)) [.cell 2 2 false, .cell 3 1 true] = some (.tup [.agg [.int .i64 0, .nils], .bool false]) := by
      unfold bO okO at t0 t1
      simp [resV, resOne, e2, e3, loadV, bO, okO, t0, t1, mkOne]
    have hbk : back ((σ'.set 0 (bO 0 .nils)).set 1 (okO false)) (.tup [.agg [.int .i64 0, .nils], .bool false]) = some (decV l) := by
      unfold decV
      rw [hdec]
      exact back_pair (ov_agg (.cons (oc_row rfl) (.cons (oc_row rfl) .nil))) (ov_set rfl)
    have hL : Go.Leaves Tryz.prog Tryz.f69 a'.tmps (fun e w' => ∃ u κ', e = .returned u ∧ RepV ⟨κ', []⟩ w' (decV l) u ∧ Below w.heap.size w w' ∧ (∀ b, b < w.heap.size → κ' b = κ b) ∧ ∀ b k, κ' b = some k → b < w'.heap.size) [{ target := .fn (.func 120) #[a1.tmps.getD 2 undef, a1.tmps.getD 3 undef], args := #[] }] (.panicking [{ v := .iface ty y, recovered := false }]) w' := by
      refine leaves_cons (by simp) (hinv w') ((catch_pan g2 s0' s1' (hp2.ext g3) (hp3.ext g3) ty y).mono ?_)
      rintro e u' w'' ⟨rfl, rfl, γ'', i1, i2, i3, i4⟩
      exact fin (g1.ext i2) i1 (g4.trans i3) (fun b hb => (i4 b hb).trans (g5 b hb)) hres rfl hbk
    obtain ⟨e'', w'', fr', hR, hs2, hfn, hlv⟩ := leaves_steps _ _ w' { b.at a' todo' with mode := .panicking [{ v := .iface ty y, recovered := false }] } cs rfl g7 rfl hf rfl hL
    exact ⟨e'', w'', fr', hR, Comes.of_steps (Steps.trans st hs) hs2, hfn, hlv⟩
end Go.Proofs.YtikkmcchhddfoaaGreatDoor.KM
