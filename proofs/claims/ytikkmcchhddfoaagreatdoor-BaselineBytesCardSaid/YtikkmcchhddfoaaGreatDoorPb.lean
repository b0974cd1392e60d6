/- The law BaselineLess, walked. -/
import Derived.Test.YtikkmcchhddfoaaGreatDoorPa
import Derived.Test.YtikkmcchhddfoaaGreatDoorA5
import Derived.Test.YtikkmcchhddfoaaGreatDoorNw
set_option linter.all false
namespace Go.Proofs.YtikkmcchhddfoaaGreatDoor.KM
open Go
theorem krows_len (l : List Key) : ∀ r ∈ l.map krow, r.length = 3 := by
  intro r hr
  obtain ⟨k, _, rfl⟩ := List.mem_map.1 hr
  rfl
theorem krows_row (l : List Key) : ∀ r ∈ l.map krow, r.all V.rowB = true := by
  intro r hr
  obtain ⟨k, _, rfl⟩ := List.mem_map.1 hr
  rfl
theorem ent_set (x : Ent) : setC (.agg x.row) = true := by
  have := sl_row x.z x.t (x.sites.map krow)
  simp only [go_sem, Ent.row, Ent.sl]
end Go.Proofs.YtikkmcchhddfoaaGreatDoor.KM
/- Walks: lists of entries. -/
namespace Go.Proofs.YtikkmcchhddfoaaGreatDoor.KM
open Go
@[go_sem] theorem ent_def (x : Ent) : x.row = [.int .i64 x.kind, x.sl, .int .i64 x.seen, .int .i64 x.missed] := hide rfl
@[go_sem] theorem ents_row (x : Ent) : x.sl.rowB = true := sl_row ..
@[go_sem] theorem ents_cell (x : Ent) : x.sl.cellB = true := sl_cell ..
@[go_sem] theorem ents_cells (x : Ent) : x.sl.cells = [x.sl] := sl_cells ..
@[go_sem] theorem ents_set (x : Ent) : setC x.sl = true := sl_set ..
@[go_sem] theorem ents_len (x : Ent) : lenV x.sl = some (.int .i64 (x.sites.length : Int)) := (sl_len ..).trans (by rw [List.length_map])
@[go_sem] theorem ents_rows (x : Ent) (σ : St) (m : Nat) : srcRows σ m x.sl = some (x.sites.map krow) := sl_rows ..
theorem erows_len (l : List Ent) : ∀ r ∈ l.map Ent.row, r.length = 4 := by
  intro r hr
  obtain ⟨k, _, rfl⟩ := List.mem_map.1 hr
  rfl
theorem ent_row (x : Ent) : x.row.all V.rowB = true := ent_set x
theorem erows_row (l : List Ent) : ∀ r ∈ l.map Ent.row, r.all V.rowB = true := by
  intro r hr
  obtain ⟨k, _, rfl⟩ := List.mem_map.1 hr
  exact ent_row k
/-- where an entry belongs -/
def placeE (e : Ent) : List Ent → Nat
  | [] => 0
  | x :: r => if ecmp x e < 0 then placeE e r + 1 else 0
theorem placeE_le (e : Ent) : ∀ l, placeE e l ≤ l.length
  | [] => Nat.le_refl _
  | x :: r => by
    simp only [placeE, List.length_cons]
    have := placeE_le e r
    split <;> omega
def thereE (e : Ent) (l : List Ent) : Bool := match l[placeE e l]? with
  | some x => ecmp x e == 0
  | none => false
def okE (l : List Ent) : Prop := ∀ x ∈ l, x.sites.length ≤ 9223372036854775807
theorem place_fn (z : Bool) (t : Nat) (l : List Ent) (e : Ent) (hl : l.length ≤ 9223372036854775807) (ho : okE l) (he : e.sites.length ≤ 9223372036854775807) :
    Fn TT PT 174 [SL z t (l.map Ent.row), .agg e.row] (.tup [.int .i64 (placeE e l : Int), .bool (thereE e l)]) := by
  refine Fn_go T174 rfl ?_
  simp only [go_sem, Nat.reduceEqDiff, reduceIte, Nat.reduceAdd, Nat.reduceMul, Nat.reduceLeDiff, Int.reduceLT, Int.reduceLE, Int.reduceToNat, Int.reduceAdd, Int.reduceNeg, Int.reduceEq]
  refine loop_w (fun i => l.length - i) (fun i : Nat => [(0, SL z t (l.map Ent.row)), (3, .ptr 0 0 0), (6, .int .i64 i)]) (fun _ => [.row e.row 139 0 0]) (fun i => i ≤ l.length ∧ placeE e l = i + placeE e (l.drop i)) ?_ 0 ⟨by omega, by simp⟩
  rintro i ⟨hi, hp⟩ ih
  refine w_rep (by delta lp174_0; exact rfl) ?_
  rcases Nat.lt_or_ge i l.length with h | h
  · obtain ⟨x, hx, hd, hm⟩ := at_some h
    rw [hd, placeE] at hp
    simp only [go_sem, Nat.reduceEqDiff, reduceIte, Nat.reduceAdd, Nat.reduceMul, Nat.reduceLeDiff, Int.reduceLT, Int.reduceLE, Int.reduceToNat, Int.reduceAdd, Int.reduceNeg, Int.reduceEq]
    refine w_drw (by kernel_rfl) ?_
    simp only [go_sem, Nat.reduceEqDiff, reduceIte, Nat.reduceAdd, Nat.reduceMul, Nat.reduceLeDiff, Int.reduceLT, Int.reduceLE, Int.reduceToNat, Int.reduceAdd, Int.reduceNeg, Int.reduceEq, lt_t h, List.length_map, List.getElem?_map, hx]
    refine wgx_fn (cent_fn x e (ho x hm) he) (by simp only [go_sem]) ?_
    simp only [go_sem, Nat.reduceEqDiff, reduceIte, Nat.reduceAdd, Nat.reduceMul, Nat.reduceLeDiff, Int.reduceLT, Int.reduceLE, Int.reduceToNat, Int.reduceAdd, Int.reduceNeg, Int.reduceEq]
    refine wc_if (fun h3 => ?_) (fun h3 => ?_)
    · simp only [go_sem, Nat.reduceEqDiff, reduceIte, Nat.reduceAdd, Nat.reduceMul, Nat.reduceLeDiff, Int.reduceLT, Int.reduceLE, Int.reduceToNat, Int.reduceAdd, Int.reduceNeg, Int.reduceEq, inc64 (Nat.lt_of_lt_of_le h hl)]
      refine W_keep (ih (i + 1) (by omega) ⟨by omega, ?_⟩) rfl
      rw [hp, if_pos (by simpa using h3)]
      omega
    · simp only [go_sem, Nat.reduceEqDiff, reduceIte, Nat.reduceAdd, Nat.reduceMul, Nat.reduceLeDiff, Int.reduceLT, Int.reduceLE, Int.reduceToNat, Int.reduceAdd, Int.reduceNeg, Int.reduceEq]
      rw [if_neg (by simpa using h3)] at hp
      have hpi : placeE e l = i := by omega
      refine w_drw (by kernel_rfl) ?_
      simp only [go_sem, Nat.reduceEqDiff, reduceIte, Nat.reduceAdd, Nat.reduceMul, Nat.reduceLeDiff, Int.reduceLT, Int.reduceLE, Int.reduceToNat, Int.reduceAdd, Int.reduceNeg, Int.reduceEq, lt_t h, List.length_map, List.getElem?_map, hx]
      refine wgx_fn (cent_fn x e (ho x hm) he) (by simp only [go_sem]) ?_
      simp only [go_sem, Nat.reduceEqDiff, reduceIte, Nat.reduceAdd, Nat.reduceMul, Nat.reduceLeDiff, Int.reduceLT, Int.reduceLE, Int.reduceToNat, Int.reduceAdd, Int.reduceNeg, Int.reduceEq]
      rw [thereE, hpi, hx]
      exact fr_tup rfl
  · simp only [go_sem, Nat.reduceEqDiff, reduceIte, Nat.reduceAdd, Nat.reduceMul, Nat.reduceLeDiff, Int.reduceLT, Int.reduceLE, Int.reduceToNat, Int.reduceAdd, Int.reduceNeg, Int.reduceEq]
    refine w_drw (by kernel_rfl) ?_
    simp only [go_sem, Nat.reduceEqDiff, reduceIte, Nat.reduceAdd, Nat.reduceMul, Nat.reduceLeDiff, Int.reduceLT, Int.reduceLE, Int.reduceToNat, Int.reduceAdd, Int.reduceNeg, Int.reduceEq, lt_f h, List.length_map]
    have hpi : placeE e l = i := by rw [hp, List.drop_eq_nil_of_le h, placeE]; rfl
    refine w_drw (by kernel_rfl) ?_
    simp only [go_sem, Nat.reduceEqDiff, reduceIte, Nat.reduceAdd, Nat.reduceMul, Nat.reduceLeDiff, Int.reduceLT, Int.reduceLE, Int.reduceToNat, Int.reduceAdd, Int.reduceNeg, Int.reduceEq, lt_f h, List.length_map]
    rw [thereE, hpi, List.getElem?_eq_none h]
    exact fr_tup rfl
/-- an entry whose list is its own -/
def Ent.own (e : Ent) : Ent := { e with z := true, t := 0 }
theorem fr_ent {σ : St} {e lo : Nat} {u : V} {x : Ent} (h : GW σ 3 e lo u (x.sites.map krow)) : FR (.agg [.int .i64 x.kind, u, .int .i64 x.seen, .int .i64 x.missed]) σ (.agg x.own.row) :=
  fr_agg (pre := [.int .i64 x.kind]) (post := [.int .i64 x.seen, .int .i64 x.missed]) h (by omega) (krows_len _) (krows_row _) rfl rfl
theorem copied_fn (e : Ent) (he : e.sites.length ≤ 1000000) : Fn TT PT 212 [.agg e.row] (.agg e.own.row) := by
  obtain ⟨u1, s1, e1, g1, l1, -, f1⟩ := gw_app (lo := 2) (σ := [.row [.int .i64 e.kind, e.sl, .int .i64 e.seen, .int .i64 e.missed] 139 0 0, .row [.int .i64 0, .nils, .int .i64 0, .int .i64 0] 139 0 0]) (m := 3) (e := 52) (bytes := 40) (y := e.sl) (ys := e.sites.map krow) gw_nil (by simp) (sl_rows ..) (by omega) (by simp) (krows_len _) (by simp; omega)
  have q0 := f1 0 (by simp)
  have q1 := f1 1 (by simp)
  rw [List.nil_append] at g1
  have hl : 2 ≤ s1.length := l1
  match s1, q0, q1, hl with
  | a :: b :: J, q0, q1, _ =>
  cases q0
  cases q1
  refine Fn_go T212 rfl ?_
  simp only [go_sem, Nat.reduceEqDiff, reduceIte, Nat.reduceAdd, Nat.reduceMul, Nat.reduceLeDiff, Int.reduceLT, Int.reduceLE, Int.reduceToNat, Int.reduceAdd, Int.reduceNeg, Int.reduceEq, e1, cells1 (gw_cell g1), gw_cell g1]
  exact fr_ent (σ := .row [.int .i64 e.kind, u1, .int .i64 e.seen, .int .i64 e.missed] 139 0 0 :: .row [.int .i64 e.kind, u1, .int .i64 e.seen, .int .i64 e.missed] 139 0 0 :: J) (gw_set (j := 1) (x := .row [.int .i64 e.kind, u1, .int .i64 e.seen, .int .i64 e.missed] 139 0 0) (gw_set (j := 0) (x := .row [.int .i64 e.kind, u1, .int .i64 e.seen, .int .i64 e.missed] 139 0 0) g1 (by omega)) (by omega))
theorem put_fn (z : Bool) (t : Nat) (l : List Ent) (i : Nat) (e : Ent) (hi : i ≤ l.length) (hl : l.length ≤ 1000000) (he : e.sites.length ≤ 1000000) :
    Fn TT PT 175 [SL z t (l.map Ent.row), .int .i64 (i : Int), .agg e.row] (SL true 0 ((l.take i ++ e.own :: l.drop i).map Ent.row)) := by
  have hc := copied_fn e he
  obtain ⟨za, ta, ha⟩ := sl_cut_hi z t 4 (l.map Ent.row) .i64 i (by simpa using hi)
  obtain ⟨zb, tb, hb⟩ := sl_cut_lo z t 4 (l.map Ent.row) .i64 i (by simpa using hi) (erows_len _)
  rw [← List.map_take] at ha
  rw [← List.map_drop] at hb
  obtain ⟨u1, s1, e1, g1, l1, -, f1⟩ := gw_app (lo := 1) (σ := [.row e.row 139 0 0]) (m := 4) (e := 139) (bytes := 48) (y := SL za ta ((l.take i).map Ent.row)) gw_nil (by simp) (sl_rows ..) (by omega) (by simp) (erows_len _) (by simp; omega)
  rw [List.nil_append] at g1
  have q1 := f1 0 (by simp)
  obtain ⟨u2, s2, e2, g2, l2, -, f2⟩ := gw_app (m := 4) (e := 139) (bytes := 48) (y := .sl s1.length 0 0 1 4 true) (ys := [e.own.row]) (gw_push (l := [.row e.own.row 139 0 0]) g1) (by simp at l1 ⊢ <;> omega) (by simp only [srcRows, get_app0] <;> rfl) (by omega) (erows_len _) (by simp [Ent.row]) (by simp; omega)
  rw [List.length_append] at l2
  have hlen2 : ∀ r ∈ (l.take i).map Ent.row ++ [e.own.row], r.length = 4 := by
    intro r hr
    rcases List.mem_append.1 hr with h | h
    · exact erows_len _ r h
    · simp at h; rw [h]; rfl
  obtain ⟨u3, s3, e3, g3, l3, -, f3⟩ := gw_app (m := 4) (e := 139) (bytes := 48) (y := SL zb tb ((l.drop i).map Ent.row)) g2 (by simp at l1; omega) (sl_rows ..) (by omega) hlen2 (erows_len _) (by simp; omega)
  have hw : ((l.take i).map Ent.row ++ [e.own.row]) ++ (l.drop i).map Ent.row = (l.take i ++ e.own :: l.drop i).map Ent.row := by simp
  rw [hw] at g3
  refine Fn_go T175 rfl ?_
  simp only [ent_def] at e1 e2 q1
  simp only [go_sem, Nat.reduceEqDiff, reduceIte, Nat.reduceAdd, Nat.reduceMul, Nat.reduceLeDiff, Int.reduceLT, Int.reduceLE, Int.reduceToNat, Int.reduceAdd, Int.reduceNeg, Int.reduceEq, ha, e1, q1]
  refine wx_fn hc (by simp only [go_sem]) ?_
  simp only [go_sem, Nat.reduceEqDiff, reduceIte, Nat.reduceAdd, Nat.reduceMul, Nat.reduceLeDiff, Int.reduceLT, Int.reduceLE, Int.reduceToNat, Int.reduceAdd, Int.reduceNeg, Int.reduceEq, e2, hb, e3]
  exact fr_gw g3 (by omega) (erows_len _) (erows_row _)
/-- an entry is added unless it is there -/
def insE (e' : Ent) (l : List Ent) : List Ent := if thereE e' l then l else l.take (placeE e' l) ++ e' :: l.drop (placeE e' l)
theorem placeE_own (e : Ent) : ∀ l, placeE e.own l = placeE e l
  | [] => rfl
  | x :: r => by simp only [placeE, placeE_own e r]; rfl
theorem thereE_own (e : Ent) (l : List Ent) : thereE e.own l = thereE e l := by
  unfold thereE
  rw [placeE_own]
  rfl
theorem insert_fn (l : List Ent) (e : Ent) (hl : l.length ≤ 1000000) (ho : okE l) (he : e.sites.length ≤ 1000000) :
    Fn TT PT 128 [SL true 0 (l.map Ent.row), .agg e.row] (SL true 0 ((insE e.own l).map Ent.row)) := by
  have hp := place_fn true 0 l e (by omega) ho (by omega)
  unfold insE
  rw [thereE_own, placeE_own]
  by_cases h : thereE e l = true
  · rw [if_pos h]
    refine Fn_go T128 rfl ?_
    rw [h] at hp
    simp only [go_sem, Nat.reduceEqDiff, reduceIte, Nat.reduceAdd, Nat.reduceMul, Nat.reduceLeDiff, Int.reduceLT, Int.reduceLE, Int.reduceToNat, Int.reduceAdd, Int.reduceNeg, Int.reduceEq]
    refine wx_fn hp (by simp only [go_sem]) ?_
    simp only [go_sem, Nat.reduceEqDiff, reduceIte, Nat.reduceAdd, Nat.reduceMul, Nat.reduceLeDiff, Int.reduceLT, Int.reduceLE, Int.reduceToNat, Int.reduceAdd, Int.reduceNeg, Int.reduceEq]
    exact fr_set (sl_set ..)
  · have hq := put_fn true 0 l (placeE e l) e (placeE_le e l) hl he
    rw [if_neg h]
    refine Fn_go T128 rfl ?_
    rw [Bool.not_eq_true] at h
    rw [h] at hp
    simp only [go_sem, Nat.reduceEqDiff, reduceIte, Nat.reduceAdd, Nat.reduceMul, Nat.reduceLeDiff, Int.reduceLT, Int.reduceLE, Int.reduceToNat, Int.reduceAdd, Int.reduceNeg, Int.reduceEq]
    refine wx_fn hp (by simp only [go_sem]) ?_
    simp only [go_sem, Nat.reduceEqDiff, reduceIte, Nat.reduceAdd, Nat.reduceMul, Nat.reduceLeDiff, Int.reduceLT, Int.reduceLE, Int.reduceToNat, Int.reduceAdd, Int.reduceNeg, Int.reduceEq]
    refine wx_fn hq (by simp only [go_sem]) ?_
    simp only [go_sem, Nat.reduceEqDiff, reduceIte, Nat.reduceAdd, Nat.reduceMul, Nat.reduceLeDiff, Int.reduceLT, Int.reduceLE, Int.reduceToNat, Int.reduceAdd, Int.reduceNeg, Int.reduceEq]
    exact fr_set (sl_set ..)
end Go.Proofs.YtikkmcchhddfoaaGreatDoor.KM
