/- Walks: the law BaselineFull. -/
import Derived.Test.YticpkkjnajmpoaaGreatDoorPx
set_option linter.all false
namespace Go.Proofs.YticpkkjnajmpoaaGreatDoor.KM
open Go
theorem updRes_ok {n : Int} {b now : List Ent} : ∀ x ∈ (updRes n b now).2.1, okV x := by
  unfold updRes
  split
  · rename_i hv
    simp only [Bool.and_eq_true] at hv
    obtain ⟨b1, b2, b3, b4, b5⟩ := valid_parts hv.1
    obtain ⟨c1, c2, c3, c4, c5⟩ := valid_parts hv.2
    split
    · intro x hx; cases hx
    · exact updL_okV b2 c2 b3 c3
  · intro x hx; cases hx
theorem updRes_len {n : Int} {b now : List Ent} : (updRes n b now).2.1.length ≤ 1000000 := by
  unfold updRes
  split
  · split
    · simp
    · rename_i h
      show (updL b now).length ≤ 1000000
      omega
  · simp
/-- a list of entries, in an object that may be settled, or a settled one -/
def NW (σ : St) (u : V) (l : List Ent) : Prop := (∃ i g z, u = .sl i g 0 (l.map Ent.row).length 4 true ∧ σ[i]? = some (.row (l.map Ent.row).flatten 32 g z) ∧ 1 ≤ i) ∨ ∃ z t, u = SL z t (l.map Ent.row)
theorem nw_push {σ J : St} {u : V} {l : List Ent} (h : NW σ u l) : NW (σ ++ J) u l := by
  rcases h with ⟨i, g, z, h1, h2, h3⟩ | h
  · exact .inl ⟨i, g, z, h1, get_app_some h2, h3⟩
  · exact .inr h
theorem nw_ov {σ : St} {u : V} {l : List Ent} (h : NW σ u l) : ∃ z t, ∀ J : St, OV (σ ++ J) u (SL z t (l.map Ent.row)) := by
  rcases h with ⟨i, g, z, rfl, h2, h3⟩ | ⟨z, t, rfl⟩
  · refine ⟨false, 0, fun J => ?_⟩
    have : SL false 0 (l.map Ent.row) = .lst 0 (l.map Ent.row) := by simp [SL]
    rw [this]
    exact ov_cell (oc_sl (get_app_some h2) (by omega) (erows_len l) (erows_row l)) rfl
  · exact ⟨z, t, fun J => ov_set (sl_set ..)⟩
theorem nw_refs {σ : St} {u : V} {l : List Ent} (h : NW σ u l) {args : List V} {v : V} (ha : refsL args = u.refs) : ∃ σ', after σ args v = σ' ∧ σ'.length = σ.length ∧ (∀ j, j ∉ u.refs → σ'[j]? = σ[j]?) ∧ NW σ' u l := by
  refine ⟨_, rfl, ?_⟩
  unfold after
  split
  · exact ⟨rfl, fun _ _ => rfl, h⟩
  · rcases h with ⟨i, g, z, rfl, h2, h3⟩ | ⟨z, t, rfl⟩
    · have : jsOf σ args = [i] := by
        unfold jsOf
        rw [ha]
        have e1 : (V.refs (.sl i g 0 (l.map Ent.row).length 4 true)).eraseDups = [i] := by simp [V.refs, List.eraseDups_cons]
        rw [e1]
        simp [clo, h2, Ob.refs, ents_refs]
      rw [this]
      refine ⟨freeze_one_len σ i, fun j hj => freeze_one σ i j (by simpa [V.refs] using hj), .inl ⟨i, g, (l.map Ent.row).flatten.length, rfl, ?_, h3⟩⟩
      simp only [St.freeze, h2]
      rw [List.getElem?_set_self (List.getElem?_eq_some_iff.1 h2).1]
      rfl
    · have : jsOf σ args = [] := by
        unfold jsOf
        rw [ha, rowB_refs (sl_row ..)]
        rfl
      rw [this]
      exact ⟨rfl, fun _ _ => rfl, .inr ⟨z, t, rfl⟩⟩
theorem nw_lt {σ : St} {u : V} {l : List Ent} (h : NW σ u l) : ∀ i ∈ u.refs, 1 ≤ i ∧ i < σ.length := by
  rcases h with ⟨i, g, z, rfl, h2, h3⟩ | ⟨z, t, rfl⟩
  · intro j hj
    simp [V.refs] at hj
    subst hj
    exact ⟨h3, (List.getElem?_eq_some_iff.1 h2).1⟩
  · rw [rowB_refs (sl_row ..)]
    intro j hj
    simp at hj
def tailF : AC := match af11.body with
  | .seq _ (.seq _ (.seq _ (.seq _ (.seq _ c)))) => c
  | c => c
def fullE (i : Nat) (M : Int) : Ent := ⟨IntKind.i64.wrap (1 + IntKind.i64.wrap (IntKind.i64.wrap ((i : Int).tdiv 50) * 2)), [([116], [120, 32, 61, 32, 49, 59], (i : Int).tmod 50), ([116], [120, 32, 61, 32, 49, 59], (i : Int).tmod 50)], 1073741824, M, false, 1⟩
def fullL (M : Int) : Nat → List Ent
  | 0 => []
  | i + 1 => insE (fullE i M).own (fullL M i)
theorem insE_ne {e : Ent} {l : List Ent} : insE e l ≠ [] := by
  unfold insE
  split
  · rename_i h
    intro e0
    rw [e0] at h
    simp [thereE] at h
  · simp
theorem fullL_inv (M : Int) : ∀ i, (fullL M i).length ≤ i ∧ ∀ x ∈ fullL M i, x.sites.length ≤ 2
  | 0 => ⟨by simp [fullL], by simp [fullL]⟩
  | i + 1 => by
    obtain ⟨h1, h2⟩ := fullL_inv M i
    refine ⟨?_, fun x hx => ?_⟩
    · have := insE_len (e := (fullE i M).own) (l := fullL M i)
      show (insE (fullE i M).own (fullL M i)).length ≤ _
      omega
    · rcases insE_mem hx with rfl | hx
      · exact Nat.le_refl _
      · exact h2 x hx
theorem lawFull_fn (x0 x1 : Nat) (h0 : x0 < 256) (h1 : x1 < 256) : Fn TT PT 11 [.int .u8 x0, .int .u8 x1] (.bool true) := by
  have hr1 : ((x1 : Int)).tmod 2 = ((x1 % 2 : Nat) : Int) := tmodN x1 2
  have hr0 : ((x0 : Int)).tmod 2 = ((x0 % 2 : Nat) : Int) := tmodN x0 2
  have w1 : IntKind.i64.wrap ((x1 % 2 : Nat) : Int) = ((x1 % 2 : Nat) : Int) := wrap64 (by omega)
  have w0 : IntKind.i64.wrap ((x0 % 2 : Nat) : Int) = ((x0 % 2 : Nat) : Int) := wrap64 (by omega)
  refine Fn_go T11 rfl ?_
  simp only [go_sem, Nat.reduceEqDiff, reduceIte, Nat.reduceAdd, Nat.reduceMul, Nat.reduceLeDiff, Int.reduceLT, Int.reduceLE, Int.reduceToNat, Int.reduceAdd, Int.reduceNeg, Int.reduceEq, hr1, w1]
  generalize hA : IntKind.i64.wrap (1073741824 - ((x1 % 2 : Nat) : Int)) = A
  refine loop_w (α := Nat × St) (fun a => 64 - a.1) (fun a => [(0, .int .u8 x0), (5, .ptr 0 0 0), (6, .int .i64 a.1)]) (fun a => .row [.int .i64 A, SL true 0 ((fullL (IntKind.i64.wrap (7 * ((x0 % 2 : Nat) : Int))) a.1).map Ent.row)] 25 0 0 :: a.2)
    (fun a => a.1 ≤ 64) ?_ (0, []) (by simp)
  rintro ⟨i, s⟩ hi ih
  simp only at hi ih
  refine w_rep (by delta lp11_0; exact rfl) ?_
  rcases Nat.lt_or_ge i 64 with h | h
  · have hlt : decide ((i : Int) < 64) = true := by simp; omega
    obtain ⟨l1, l2⟩ := fullL_inv (IntKind.i64.wrap (7 * ((x0 % 2 : Nat) : Int))) i
    have hins := insert_fn (fullL (IntKind.i64.wrap (7 * ((x0 % 2 : Nat) : Int))) i) (fullE i (IntKind.i64.wrap (7 * ((x0 % 2 : Nat) : Int)))) (by omega) (fun x hx => by have := l2 x hx; omega) (by show 2 ≤ 1000000; omega)
    simp only [ent_def] at hins
    rw [show (fullE i (IntKind.i64.wrap (7 * ((x0 % 2 : Nat) : Int)))).sl = .lst 1 [[.str [116], .str [120, 32, 61, 32, 49, 59], .int .i64 ((i : Int).tmod 50)], [.str [116], .str [120, 32, 61, 32, 49, 59], .int .i64 ((i : Int).tmod 50)]] from rfl] at hins
    simp only [go_sem, Nat.reduceEqDiff, reduceIte, Nat.reduceAdd, Nat.reduceMul, Nat.reduceLeDiff, Int.reduceLT, Int.reduceLE, Int.reduceToNat, Int.reduceAdd, Int.reduceNeg, Int.reduceEq, hlt, hr0, w0]
    refine wx_fn hins (by simp only [go_sem]) ?_
    simp only [go_sem, Nat.reduceEqDiff, reduceIte, Nat.reduceAdd, Nat.reduceMul, Nat.reduceLeDiff, Int.reduceLT, Int.reduceLE, Int.reduceToNat, Int.reduceAdd, Int.reduceNeg, Int.reduceEq, inc64 (show i < 9223372036854775807 by omega)]
    exact W_keep (ih (i + 1, _) (by simp; omega) (by simp; omega)) rfl
  · obtain rfl : i = 64 := by omega
    clear ih
    have hlt : decide (((64 : Nat) : Int) < 64) = false := by decide
    obtain ⟨l1, l2⟩ := fullL_inv (IntKind.i64.wrap (7 * ((x0 % 2 : Nat) : Int))) 64
    have hne : fullL (IntKind.i64.wrap (7 * ((x0 % 2 : Nat) : Int))) 64 ≠ [] := insE_ne
    generalize fullL (IntKind.i64.wrap (7 * ((x0 % 2 : Nat) : Int))) 64 = L at l1 l2 hne
    have hoL : okE L := fun x hx => by have := l2 x hx; omega
    simp only [go_sem, Nat.reduceEqDiff, reduceIte, Nat.reduceAdd, Nat.reduceMul, Nat.reduceLeDiff, Int.reduceLT, Int.reduceLE, Int.reduceToNat, Int.reduceAdd, Int.reduceNeg, Int.reduceEq, hlt]
    have hfin : ∀ (e : Env) (σ : St), (∃ u l, e = [(5, .ptr 0 0 0), (6, .int .i64 64), (8, u)] ∧ σ[0]? = some (.row [.int .i64 A, SL true 0 (L.map Ent.row)] 25 0 0) ∧ NW σ u l ∧ okE l) → 1 ≤ σ.length → W TT PT [.c tailF] e σ (FQ [AR.tmp 4] (.bool true)) := by
      rintro _ σ ⟨u, l, rfl, q0, qn, ql⟩ hlen
      delta tailF af11
      dsimp only
      obtain ⟨z1, t1, ov⟩ := nw_ov qn
      have ov1 := ov []
      rw [List.append_nil] at ov1
      have hup := updateB_fn true z1 0 t1 A L l hoL ql
      unfold baseV at hup
      obtain ⟨σ1, ea, el, eo, en⟩ := nw_refs qn (args := [.agg [.int .i64 A, SL true 0 (L.map Ent.row)], u]) (v := .tup [.agg [.int .i64 (updRes A L l).1, SL true 0 ((updRes A L l).2.1.map Ent.row)], .int .i64 (updRes A L l).2.2]) (by simp [refsL, V.refs, rowB_refs (sl_row ..)])
      have hrl : okE (updRes A L l).2.1 := okE_of updRes_ok
      have hrn : (updRes A L l).2.1.length ≤ 1000000 := updRes_len
      simp only [go_sem, Nat.reduceEqDiff, reduceIte, Nat.reduceAdd, Nat.reduceMul, Nat.reduceLeDiff, Int.reduceLT, Int.reduceLE, Int.reduceToNat, Int.reduceAdd, Int.reduceNeg, Int.reduceEq, q0]
      refine wx_fz (.cons (ov_set (by simp only [go_sem])) (.cons ov1 .nil)) hup ea ?_
      have q1 := (eo 0 (fun hm => by have := nw_lt qn 0 hm; omega)).trans q0
      obtain ⟨z2, t2, ov2⟩ := nw_ov en
      have hup2 := rupdate_fn true z2 0 t2 A L l hoL ql
      unfold baseV at hup2
      generalize updRes A L l = X at hup hup2 hrl hrn
      obtain ⟨Xn, Xl, Xe⟩ := X
      simp only at hup hup2 hrl hrn
      have q2 : (σ1 ++ [.row [.int .i64 Xn, SL true 0 (Xl.map Ent.row)] 25 0 0])[0]? = some (.row [.int .i64 A, SL true 0 (L.map Ent.row)] 25 0 0) := get_app_some q1
      obtain ⟨σ2, ea2, el2, eo2, en2⟩ := nw_refs (nw_push (J := [.row [.int .i64 Xn, SL true 0 (Xl.map Ent.row)] 25 0 0]) en) (args := [.agg [.int .i64 A, SL true 0 (L.map Ent.row)], u]) (v := .tup [.agg [.int .i64 Xn, SL true 0 (Xl.map Ent.row)], .int .i64 Xe]) (by simp [refsL, V.refs, rowB_refs (sl_row ..)])
      simp only [go_sem, Nat.reduceEqDiff, reduceIte, Nat.reduceAdd, Nat.reduceMul, Nat.reduceLeDiff, Int.reduceLT, Int.reduceLE, Int.reduceToNat, Int.reduceAdd, Int.reduceNeg, Int.reduceEq, q2]
      refine wx_fz (.cons (ov_set (by simp only [go_sem])) (.cons (ov2 _) .nil)) hup2 ea2 ?_
      have q3 := (eo2 0 (fun hm => by have := nw_lt en 0 hm; omega)).trans q2
      have q4 : σ2[σ1.length]? = some (.row [.int .i64 Xn, SL true 0 (Xl.map Ent.row)] 25 0 0) := (eo2 σ1.length (fun hm => by have := nw_lt en _ hm; omega)).trans (get_app0 ..)
      have el3 : σ1.length < σ2.length := by rw [el2]; simp
      have q5 : ∀ Y : Ob, (σ2 ++ [Y])[0]? = some (.row [.int .i64 A, SL true 0 (L.map Ent.row)] 25 0 0) := fun Y => get_app_some q3
      have q6 : ∀ Y : Ob, (σ2 ++ [Y])[σ1.length]? = some (.row [.int .i64 Xn, SL true 0 (Xl.map Ent.row)] 25 0 0) := fun Y => get_app_some q4
      have va := valid_fn true 0 A L hoL
      have vb := rvalid_fn true 0 A L hoL
      have sb := sameB_fn true true 0 0 Xn Xl hrl hrn
      simp only [go_sem, Nat.reduceEqDiff, reduceIte, Nat.reduceAdd, Nat.reduceMul, Nat.reduceLeDiff, Int.reduceLT, Int.reduceLE, Int.reduceToNat, Int.reduceAdd, Int.reduceNeg, Int.reduceEq]
      refine w_drw (by kernel_rfl) ?_
      simp only [go_sem, Nat.reduceEqDiff, reduceIte, Nat.reduceAdd, Nat.reduceMul, Nat.reduceLeDiff, Int.reduceLT, Int.reduceLE, Int.reduceToNat, Int.reduceAdd, Int.reduceNeg, Int.reduceEq, q5, q6]
      refine wgx_fn va (by simp only [go_sem]) ?_
      simp only [go_sem, Nat.reduceEqDiff, reduceIte, Nat.reduceAdd, Nat.reduceMul, Nat.reduceLeDiff, Int.reduceLT, Int.reduceLE, Int.reduceToNat, Int.reduceAdd, Int.reduceNeg, Int.reduceEq, q5, q6]
      refine wgx_fn vb (by simp only [go_sem]) ?_
      simp only [go_sem, Nat.reduceEqDiff, reduceIte, Nat.reduceAdd, Nat.reduceMul, Nat.reduceLeDiff, Int.reduceLT, Int.reduceLE, Int.reduceToNat, Int.reduceAdd, Int.reduceNeg, Int.reduceEq, q5, q6, beq_self_eq_true]
      refine wgx_fn sb (by simp only [go_sem]) ?_
      simp only [go_sem, Nat.reduceEqDiff, reduceIte, Nat.reduceAdd, Nat.reduceMul, Nat.reduceLeDiff, Int.reduceLT, Int.reduceLE, Int.reduceToNat, Int.reduceAdd, Int.reduceNeg, Int.reduceEq]
      refine wgx_fn awake_fn (by simp only [go_sem]) ?_
      simp only [go_sem, Nat.reduceEqDiff, reduceIte, Nat.reduceAdd, Nat.reduceMul, Nat.reduceLeDiff, Int.reduceLT, Int.reduceLE, Int.reduceToNat, Int.reduceAdd, Int.reduceNeg, Int.reduceEq]
      exact fr_set rfl
    refine wc_join (by rfl) (fun e σ => (∃ u l, e = [(5, .ptr 0 0 0), (6, .int .i64 64), (8, u)] ∧ σ[0]? = some (.row [.int .i64 A, SL true 0 (L.map Ent.row)] 25 0 0) ∧ NW σ u l ∧ okE l) ∧ 1 ≤ σ.length) (fun hb => ?_) (fun hb => ?_) (fun e σ hp => hfin e σ hp.1 hp.2)
    · obtain ⟨x, L', rfl⟩ := List.exists_cons_of_ne_nil hne
      have happ : ∀ σ : St, appV 48 (4, 32) (.lst 1 [[.int .i64 x.kind, x.sl, .int .i64 x.seen, .int .i64 x.missed]]) (.lst 1 [[.int .i64 3, .lst 1 [[.str [117], .str [97], .int .i64 0], [.str [117], .str [97], .int .i64 0]], .int .i64 1, .int .i64 0]]) σ =
          some (.sl σ.length 0 0 2 4 true, σ ++ [.row [.int .i64 x.kind, x.sl, .int .i64 x.seen, .int .i64 x.missed, .int .i64 3, .lst 1 [[.str [117], .str [97], .int .i64 0], [.str [117], .str [97], .int .i64 0]], .int .i64 1, .int .i64 0] 32 0 0]) := by
        intro σ
        simp [appV, srcRows, appR]
      simp only [go_sem, Nat.reduceEqDiff, reduceIte, Nat.reduceAdd, Nat.reduceMul, Nat.reduceLeDiff, Int.reduceLT, Int.reduceLE, Int.reduceToNat, Int.reduceAdd, Int.reduceNeg, Int.reduceEq, happ]
      refine ⟨⟨_, [x, ⟨3, [([117], [97], 0), ([117], [97], 0)], 1, 0, false, 1⟩], rfl, rfl, .inl ⟨s.length + 1, 0, 0, rfl, ?_, by omega⟩, ?_⟩, by simp⟩
      · rw [List.getElem?_cons_succ, get_app0]
        rfl
      · intro y hy
        rcases List.mem_cons.1 hy with rfl | hy
        · exact hoL y List.mem_cons_self
        · rw [List.mem_singleton.1 hy]
          show 2 ≤ _
          omega
    · simp only [go_sem, Nat.reduceEqDiff, reduceIte, Nat.reduceAdd, Nat.reduceMul, Nat.reduceLeDiff, Int.reduceLT, Int.reduceLE, Int.reduceToNat, Int.reduceAdd, Int.reduceNeg, Int.reduceEq]
      refine ⟨⟨_, [⟨3, [([117], [97], 0), ([117], [97], 0)], 1, 0, false, 1⟩], rfl, rfl, .inr ⟨false, 1, rfl⟩, ?_⟩, by simp⟩
      intro y hy
      rw [List.mem_singleton.1 hy]
      show 2 ≤ _
      omega
end Go.Proofs.YticpkkjnajmpoaaGreatDoor.KM
