/- Walks: the texts of baselines; the law BaselineFormats. -/
import Derived.Test.YtikkmcchhddfoaaGreatDoorCb
import Derived.Test.YtikkmcchhddfoaaGreatDoorA5
set_option linter.all false
namespace Go.Proofs.YtikkmcchhddfoaaGreatDoor.KM
open Go
theorem brows_len (l : List UInt8) : ∀ r ∈ byteRows l, r.length = 1 := by
  intro r hr
  obtain ⟨c, _, rfl⟩ := List.mem_map.1 hr
  rfl
theorem brows_app (a b : List UInt8) : byteRows (a ++ b) = byteRows a ++ byteRows b := List.map_append ..
theorem brows_n (a : List UInt8) : (byteRows a).length = a.length := List.length_map ..
theorem rowsByte_rows : ∀ l : List UInt8, rowsByte (byteRows l) = some l
  | [] => rfl
  | c :: l => by
    have h : c.toNat < 256 := c.toNat_lt
    have := rowsByte_rows l
    simp only [byteRows, List.map_cons, rowsByte] at this ⊢
    rw [if_pos (by omega), this]
    simp
theorem byte_refs (l : List UInt8) : refsL (byteRows l).flatten = [] := by
  refine refsL_row (rows_all fun r hr => ?_)
  obtain ⟨c, _, rfl⟩ := List.mem_map.1 hr
  rfl
theorem apps_app (ty : Nat) (x : V) (l : List UInt8) (σ : St) : appsV ty x (.str l) σ = appV 1 (1, ty) x (.lst 1 (byteRows l)) σ := rfl
theorem lt_of_get {s : St} {j : Nat} {x : Ob} (h : s[j]? = some x) : j < s.length := (List.getElem?_eq_some_iff.1 h).1
/-- a Builder at object b: its list u holds l -/
def BL (s : St) (b : Nat) (u : V) (l : List UInt8) : Prop := ∃ p, s[b]? = some (.row [p, u] 95 0 0) ∧ (p = .nilp ∨ p = .ptr b 0 0) ∧ GW s 1 5 (b + 1) u (byteRows l)
theorem bl_refs {s : St} {b : Nat} {u : V} {l : List UInt8} (h : BL s b u l) : ∀ i ∈ u.refs, i < s.length := by
  obtain ⟨p, _, _, hg⟩ := h
  exact gw_refs hg
theorem bl_push {s J : St} {b : Nat} {u : V} {l : List UInt8} (h : BL s b u l) : BL (s ++ J) b u l := by
  obtain ⟨p, h1, h2, h3⟩ := h
  exact ⟨p, get_app_some h1, h2, gw_push h3⟩
theorem cl_row {s : St} {cs : List V} {t : Nat} (h : Cl s) (hr : cs.all V.rowB = true) : Cl (s ++ [.row cs t 0 0]) := cl_push h (by simp only [Ob.refs, refsL_row hr]; simp)
theorem write_th {s : St} {b : Nat} {u : V} {l : List UInt8} (t : List UInt8) (h : BL s b u l) (hc : Cl s) (hb : l.length + t.length ≤ 1000000000) :
    ∃ s' u', Th TT PT 45 [.ptr b 0 0, .str t] s (.tup [.int .i64 (t.length : Int), .nili]) s' ∧ BL s' b u' (l ++ t) ∧ Cl s' ∧ s.length ≤ s'.length ∧ ∀ j, j ≠ b → j ∉ u.refs → j < s.length → s'[j]? = s[j]? := by
  have hbr := bl_refs h
  obtain ⟨p, hs, hp, hg⟩ := h
  have hbl : b < s.length := lt_of_get hs
  -- behind copyCheck
  have h1 : ∃ s1, ccS 95 [.ptr b 0 0] s = some (.tup [], s1) ∧ s1[b]? = some (.row [.ptr b 0 0, u] 95 0 0) ∧ GW s1 1 5 (b + 1) u (byteRows l) ∧ s1.length = s.length ∧ Cl s1 ∧ ∀ j, j ≠ b → s1[j]? = s[j]? := by
    rcases hp with rfl | rfl
    · refine ⟨s.set b (.row [.ptr b 0 0, u] 95 0 0), ?_, by rw [List.getElem?_set_self hbl], gw_set hg (by omega), by simp, cl_set hc ?_, fun j hj => by rw [List.getElem?_set_ne (by omega)]⟩
      · simp [ccS, hs]
      · intro i hi
        simp only [Ob.refs, refsL, V.refs, List.append_nil, List.mem_append, List.mem_singleton] at hi
        rcases hi with rfl | hi
        · exact hbl
        · exact hbr i hi
    · exact ⟨s, by simp [ccS, hs], hs, hg, rfl, hc, fun _ _ => rfl⟩
  obtain ⟨s1, e1, q1, g1, l1, c1, f1⟩ := h1
  obtain ⟨u2, s2, e2, g2, l2, fo, f2⟩ := gw_app (bytes := 1) (y := .lst 1 (byteRows t)) (ys := byteRows t) g1 (by omega) rfl (by omega) (brows_len l) (brows_len t) (by rw [brows_n, brows_n]; omega)
  rw [← brows_app] at g2
  have q2 := (f2 b (by omega)).trans q1
  have c2 : Cl s2 ∧ ∀ i ∈ u2.refs, i < s2.length := ⟨gw_app_cl g1 rfl e2 (byte_refs l) (byte_refs t) c1, gw_refs g2⟩
  have c3 : Cl (s2.set b (.row [.ptr b 0 0, u2] 95 0 0)) := by
    refine cl_set c2.1 ?_
    intro i hi
    simp only [Ob.refs, refsL, V.refs, List.append_nil, List.mem_append, List.mem_singleton] at hi
    rcases hi with rfl | hi
    · omega
    · exact c2.2 i hi
  refine ⟨s2.set b (.row [.ptr b 0 0, u2] 95 0 0), u2, Th_all T45 rfl ?_ rfl rfl (by simp; omega) c3, ⟨.ptr b 0 0, by rw [List.getElem?_set_self (by omega)], .inr rfl, gw_set g2 (by omega)⟩, c3, by simp; omega, fun j hj hu hl => ?_⟩
  · simp only [go_sem, Nat.reduceEqDiff, reduceIte, Nat.reduceAdd, Nat.reduceMul, Nat.reduceLeDiff, Int.reduceLT, Int.reduceLE, Int.reduceToNat, Int.reduceAdd, Int.reduceNeg, Int.reduceEq]
    refine wx_call (.spec T89 rfl rfl e1) ?_
    simp only [go_sem, Nat.reduceEqDiff, reduceIte, Nat.reduceAdd, Nat.reduceMul, Nat.reduceLeDiff, Int.reduceLT, Int.reduceLE, Int.reduceToNat, Int.reduceAdd, Int.reduceNeg, Int.reduceEq, q1, apps_app, e2, q2, cells1 (gw_cell g2), gw_cell g2]
    exact ⟨rfl, rfl⟩
  · rw [List.getElem?_set_ne (by omega), fo j ?_ (by omega), f1 j hj]
    intro i g hi hji
    subst hji
    exact hu (by rw [hi]; simp [V.refs])
/-- what String gives -/
theorem bl_str {s : St} {b : Nat} {u : V} {l : List UInt8} (h : BL s b u l) : ∃ s', strS 95 5 [.ptr b 0 0] s = some (.str l, s') := by
  obtain ⟨p, hs, hp, hg⟩ := h
  rcases hg with ⟨rfl, hl⟩ | ⟨hn, i, g, rfl, ho, hlo⟩
  · have : l = [] := by simpa [byteRows] using hl
    subst this
    exact ⟨s, by simp [strS, hs]⟩
  · have hpos : 0 < (byteRows l).length := List.length_pos_iff.2 hn
    have hch : chop 1 (byteRows l).length (byteRows l).flatten = byteRows l := chopL_flat (brows_len l)
    have hfl := flatL_len (brows_len l)
    refine ⟨s.set i .dead, ?_⟩
    simp only [strS, hs, ho]
    rw [if_pos ⟨trivial, trivial, hpos⟩, if_pos ⟨trivial, trivial, by omega⟩, hch, rowsByte_rows]
    rfl
/-! texts -/
def I64 (n : Int) : Prop := -9223372036854775808 ≤ n ∧ n ≤ 9223372036854775807
theorem itoa_some {n : Int} (h : I64 n) : itoaS [.int .i64 n] = some (.str (itoaE n)) := by
  simp only [itoaS]
  rw [if_pos (show -9223372036854775808 ≤ n ∧ n ≤ 9223372036854775807 from h)]
theorem decE_len : ∀ k u, (decE k u).length ≤ k
  | 0, _ => by simp [decE]
  | k + 1, u => by
    have := decE_len k (u / 10)
    unfold decE
    split
    · simp
    · simp; omega
theorem itoa_len (n : Int) : (itoaE n).length ≤ 21 := by
  unfold itoaE
  split
  · have := decE_len 20 n.natAbs
    simp; omega
  · have := decE_len 20 n.toNat
    omega
theorem ite_le {α : Type} {n m : Nat} {x y : α} [inst : Decidable (n ≤ m)] (h : n ≤ m) : (@ite α (n ≤ m) inst x y) = x := if_pos h
def keyText (k : Key) : List UInt8 := 115 :: 105 :: 116 :: 101 :: 32 :: (itoaE k.2.2 ++ 32 :: (k.1 ++ 32 :: (k.2.1 ++ [10])))
def headText (e : Ent) : List UInt8 := 101 :: 110 :: 116 :: 114 :: 121 :: 32 :: (itoaE e.kind ++ 32 :: (itoaE e.seen ++ 32 :: (itoaE e.missed ++ [10])))
def entText (e : Ent) : List UInt8 := headText e ++ (e.sites.map keyText).flatten
def firstText (n : Int) : List UInt8 := 98 :: 97 :: 115 :: 101 :: 108 :: 105 :: 110 :: 101 :: 32 :: (itoaE n ++ [10])
def baseText (n : Int) (l : List Ent) : List UInt8 := firstText n ++ (l.map entText).flatten
def EntOk (e : Ent) : Prop := I64 e.kind ∧ I64 e.seen ∧ I64 e.missed ∧ ∀ k ∈ e.sites, I64 k.2.2
def TextOk (n : Int) (l : List Ent) : Prop := I64 n ∧ (∀ e ∈ l, EntOk e ∧ e.sites.length ≤ 1000000000) ∧ l.length ≤ 1000000000 ∧ (baseText n l).length ≤ 1000000000
theorem format_fn (z : Bool) (t : Nat) (n : Int) (l : List Ent) (hok : TextOk n l) : Fn TT PT 40 [.agg [.int .i64 n, SL z t (l.map Ent.row)]] (.str (baseText n l)) := by
  obtain ⟨hn, hl, hll, hsz⟩ := hok
  have hi1 := itoa_len n
  obtain ⟨s1, u1, th1, b1, c1, l1, f1⟩ := write_th (s := [.row [.int .i64 n, SL z t (l.map Ent.row)] 61 0 0, .row [.nilp, .nils] 95 0 0]) (b := 1) (u := .nils) (l := []) (firstText n) ⟨.nilp, rfl, .inl rfl, gw_nil⟩ (by
    intro ob hob i hi
    simp only [List.mem_cons, List.not_mem_nil, or_false] at hob
    rcases hob with rfl | rfl
    · simp [Ob.refs, refsL, V.refs, rowB_refs (sl_row z t (l.map Ent.row))] at hi
    · simp [Ob.refs, refsL, V.refs] at hi) (by simp [firstText]; omega)
  have q0 := f1 0 (by omega) (by simp [V.refs]) (by simp)
  simp only [List.nil_append] at b1
  refine Fn_go T40 rfl ?_
  simp only [go_sem, Nat.reduceEqDiff, reduceIte, Nat.reduceAdd, Nat.reduceMul, Nat.reduceLeDiff, Int.reduceLT, Int.reduceLE, Int.reduceToNat, Int.reduceAdd, Int.reduceNeg, Int.reduceEq]
  refine wx_pr P78 (by simp only [go_sem]) (itoa_some hn) ?_
  simp (maxSteps := 2000000) (disch := omega) only [go_sem, Nat.reduceEqDiff, reduceIte, Nat.reduceAdd, Nat.reduceMul, Nat.reduceLeDiff, Int.reduceLT, Int.reduceLE, Int.reduceToNat, Int.reduceAdd, Int.reduceNeg, Int.reduceEq, ite_le]
  refine wx_th th1 ?_
  simp only [go_sem, Nat.reduceEqDiff, reduceIte, Nat.reduceAdd, Nat.reduceMul, Nat.reduceLeDiff, Int.reduceLT, Int.reduceLE, Int.reduceToNat, Int.reduceAdd, Int.reduceNeg, Int.reduceEq, q0, List.length_map]
  refine loop_w (α := Nat × V × St × List UInt8) (fun a => l.length - a.1) (fun a => [(3, .ptr 1 0 0), (15, SL z t (l.map Ent.row)), (16, .int .i64 l.length), (17, .int .i64 a.1)]) (fun a => a.2.2.1)
    (fun a => a.1 ≤ l.length ∧ BL a.2.2.1 1 a.2.1 a.2.2.2 ∧ Cl a.2.2.1 ∧ a.2.2.2 ++ ((l.drop a.1).map entText).flatten = baseText n l) ?_ (0, u1, s1, firstText n) ⟨by simp, b1, c1, by simp [baseText]⟩
  rintro ⟨i, u, s, T⟩ ⟨hi, hb, hc, ht⟩ ih
  simp only at hi hb hc ht ih
  refine w_rep (by delta lp40_1; exact rfl) ?_
  rcases Nat.lt_or_ge i l.length with h | h
  · obtain ⟨x, hx, hd, hm⟩ := at_some h
    obtain ⟨⟨hk1, hk2, hk3, hk4⟩, hk5⟩ := hl x hm
    rw [hd, List.map_cons, List.flatten_cons, entText] at ht
    have hT : T.length + (headText x).length + ((x.sites.map keyText).flatten).length + (((l.drop (i + 1)).map entText).flatten).length ≤ 1000000000 := by
      rw [← ht] at hsz
      simp only [List.length_append] at hsz
      omega
    have hj1 := itoa_len x.kind
    have hj2 := itoa_len x.seen
    have hj3 := itoa_len x.missed
    obtain ⟨s2, u2, th2, b2, c2, l2, f2⟩ := write_th (headText x) (bl_push (J := [.row x.row 139 0 0]) hb) (cl_row hc (ent_row x)) (by omega)
    have q2 := f2 s.length (by have := lt_of_get hb.choose_spec.1; omega) (fun hm => by have := bl_refs hb _ hm; omega) (by simp)
    rw [get_app0] at q2
    simp only [ent_def, List.getElem?_cons_zero] at th2 q2
    simp only [go_sem, Nat.reduceEqDiff, reduceIte, Nat.reduceAdd, Nat.reduceMul, Nat.reduceLeDiff, Int.reduceLT, Int.reduceLE, Int.reduceToNat, Int.reduceAdd, Int.reduceNeg, Int.reduceEq, lt_t h, List.getElem?_map, hx]
    refine w_drw (by kernel_rfl) ?_
    simp only [go_sem, Nat.reduceEqDiff, reduceIte, Nat.reduceAdd, Nat.reduceMul, Nat.reduceLeDiff, Int.reduceLT, Int.reduceLE, Int.reduceToNat, Int.reduceAdd, Int.reduceNeg, Int.reduceEq]
    refine wgx_pr P78 (by simp only [go_sem]) (itoa_some hk1) ?_
    simp (maxSteps := 2000000) (disch := omega) only [go_sem, Nat.reduceEqDiff, reduceIte, Nat.reduceAdd, Nat.reduceMul, Nat.reduceLeDiff, Int.reduceLT, Int.reduceLE, Int.reduceToNat, Int.reduceAdd, Int.reduceNeg, Int.reduceEq, ite_le]
    refine wgx_pr P78 (by simp only [go_sem]) (itoa_some hk2) ?_
    simp (maxSteps := 2000000) (disch := omega) only [go_sem, Nat.reduceEqDiff, reduceIte, Nat.reduceAdd, Nat.reduceMul, Nat.reduceLeDiff, Int.reduceLT, Int.reduceLE, Int.reduceToNat, Int.reduceAdd, Int.reduceNeg, Int.reduceEq, ite_le]
    refine wgx_pr P78 (by simp only [go_sem]) (itoa_some hk3) ?_
    simp (maxSteps := 2000000) (disch := omega) only [go_sem, Nat.reduceEqDiff, reduceIte, Nat.reduceAdd, Nat.reduceMul, Nat.reduceLeDiff, Int.reduceLT, Int.reduceLE, Int.reduceToNat, Int.reduceAdd, Int.reduceNeg, Int.reduceEq, ite_le]
    refine wgx_th th2 (by repeat (first | exact trivial | refine ⟨.inl (by rfl), ?_⟩ | refine ⟨by rfl, ?_⟩ | refine ⟨.inr ⟨by rfl, by rfl⟩, ?_⟩)) (by repeat (first | exact trivial | refine ⟨.inl (by rfl), ?_⟩ | refine ⟨by rfl, ?_⟩ | refine ⟨.inr ⟨by rfl, by rfl⟩, ?_⟩)) ?_
    simp only [go_sem, Nat.reduceEqDiff, reduceIte, Nat.reduceAdd, Nat.reduceMul, Nat.reduceLeDiff, Int.reduceLT, Int.reduceLE, Int.reduceToNat, Int.reduceAdd, Int.reduceNeg, Int.reduceEq, q2]
    refine loop_w (α := Nat × V × St × List UInt8) (fun a => x.sites.length - a.1) (fun a => [(3, .ptr 1 0 0), (15, SL z t (l.map Ent.row)), (16, .int .i64 l.length), (17, .int .i64 i), (38, x.sl), (39, .int .i64 x.sites.length), (40, .int .i64 a.1)]) (fun a => a.2.2.1)
      (fun a => a.1 ≤ x.sites.length ∧ BL a.2.2.1 1 a.2.1 a.2.2.2 ∧ Cl a.2.2.1 ∧ a.2.2.2 ++ (((x.sites.drop a.1).map keyText).flatten ++ ((l.drop (i + 1)).map entText).flatten) = baseText n l) ?_ (0, u2, s2, T ++ headText x) ⟨by simp, b2, c2, by simp only [List.drop_zero]; rw [← ht]; simp only [List.append_assoc]⟩
    rintro ⟨j, u3, s3, T3⟩ ⟨hj, hb3, hc3, ht3⟩ ih3
    simp only at hj hb3 hc3 ht3 ih3
    refine w_rep (by delta lp40_0; exact rfl) ?_
    rcases Nat.lt_or_ge j x.sites.length with h3 | h3
    · obtain ⟨y, hy, hd3, hm3⟩ := at_some h3
      have hy4 := hk4 y hm3
      rw [hd3, List.map_cons, List.flatten_cons] at ht3
      have hT3 : T3.length + (keyText y).length ≤ 1000000000 := by
        rw [← ht3] at hsz
        simp only [List.length_append] at hsz
        omega
      have hj4 := itoa_len y.2.2
      have hky : (keyText y).length = (itoaE y.2.2).length + y.1.length + y.2.1.length + 8 := by simp [keyText]; omega
      obtain ⟨s4, u4, th4, b4, c4, l4, f4⟩ := write_th (keyText y) (bl_push (J := [.row (krow y) 52 0 0]) hb3) (cl_row hc3 rfl) hT3
      simp only [krow] at th4
      simp only [go_sem, Nat.reduceEqDiff, reduceIte, Nat.reduceAdd, Nat.reduceMul, Nat.reduceLeDiff, Int.reduceLT, Int.reduceLE, Int.reduceToNat, Int.reduceAdd, Int.reduceNeg, Int.reduceEq, lt_t h3, ents_iad, List.getElem?_map, hy, krow]
      refine w_drw (by kernel_rfl) ?_
      simp only [go_sem, Nat.reduceEqDiff, reduceIte, Nat.reduceAdd, Nat.reduceMul, Nat.reduceLeDiff, Int.reduceLT, Int.reduceLE, Int.reduceToNat, Int.reduceAdd, Int.reduceNeg, Int.reduceEq]
      refine wgx_pr P78 (by simp only [go_sem]) (itoa_some hy4) ?_
      simp (maxSteps := 2000000) (disch := omega) only [go_sem, Nat.reduceEqDiff, reduceIte, Nat.reduceAdd, Nat.reduceMul, Nat.reduceLeDiff, Int.reduceLT, Int.reduceLE, Int.reduceToNat, Int.reduceAdd, Int.reduceNeg, Int.reduceEq, ite_le]
      refine wgx_th th4 (by repeat (first | exact trivial | refine ⟨.inl (by rfl), ?_⟩ | refine ⟨by rfl, ?_⟩ | refine ⟨.inr ⟨by rfl, by rfl⟩, ?_⟩)) (by repeat (first | exact trivial | refine ⟨.inl (by rfl), ?_⟩ | refine ⟨by rfl, ?_⟩ | refine ⟨.inr ⟨by rfl, by rfl⟩, ?_⟩)) ?_
      simp only [go_sem, Nat.reduceEqDiff, reduceIte, Nat.reduceAdd, Nat.reduceMul, Nat.reduceLeDiff, Int.reduceLT, Int.reduceLE, Int.reduceToNat, Int.reduceAdd, Int.reduceNeg, Int.reduceEq, inc64 (show j < 9223372036854775807 by omega)]
      refine W_keep (ih3 (j + 1, u4, s4, T3 ++ keyText y) (by simp; omega) ⟨by simp; omega, b4, c4, ?_⟩) rfl
      simp only
      rw [← ht3]
      simp only [List.append_assoc]
    · simp only [go_sem, Nat.reduceEqDiff, reduceIte, Nat.reduceAdd, Nat.reduceMul, Nat.reduceLeDiff, Int.reduceLT, Int.reduceLE, Int.reduceToNat, Int.reduceAdd, Int.reduceNeg, Int.reduceEq, lt_f h3, inc64 (show i < 9223372036854775807 by omega)]
      refine W_keep (ih (i + 1, u3, s3, T3) (by simp; omega) ⟨by simp; omega, hb3, hc3, ?_⟩) rfl
      simp only
      rw [← ht3, List.drop_eq_nil_of_le h3]
      simp
  · rw [List.drop_eq_nil_of_le h] at ht
    simp only [List.map_nil, List.flatten_nil, List.append_nil] at ht
    obtain ⟨s5, hs5⟩ := bl_str hb
    simp only [go_sem, Nat.reduceEqDiff, reduceIte, Nat.reduceAdd, Nat.reduceMul, Nat.reduceLeDiff, Int.reduceLT, Int.reduceLE, Int.reduceToNat, Int.reduceAdd, Int.reduceNeg, Int.reduceEq, lt_f h]
    refine wx_call (.spec T49 rfl rfl hs5) ?_
    simp only [go_sem, Nat.reduceEqDiff, reduceIte, Nat.reduceAdd, Nat.reduceMul, Nat.reduceLeDiff, Int.reduceLT, Int.reduceLE, Int.reduceToNat, Int.reduceAdd, Int.reduceNeg, Int.reduceEq]
    exact fr_eq rfl (by rw [ht])
/-- baselines that are made of items -/
theorem base_fn (z : Bool) (t : Nat) (l : List Item) (n : Nat) (hn : n < 256) (hl : l.length ≤ 9223372036854775807) (hok : ∀ x ∈ l, x.ok) : Fn TT PT 34 [SL z t (l.map Item.row), .int .u8 n] (.agg [.int .i64 n, SL true 0 ((preE l 20).map Ent.row)]) := by
  have hen := entries_fn z t l hl hok
  have w1 : IntKind.i64.wrap (n : Int) = n := wrap64 (by omega)
  refine Fn_go T34 rfl ?_
  simp only [go_sem, Nat.reduceEqDiff, reduceIte, Nat.reduceAdd, Nat.reduceMul, Nat.reduceLeDiff, Int.reduceLT, Int.reduceLE, Int.reduceToNat, Int.reduceAdd, Int.reduceNeg, Int.reduceEq, w1]
  refine wx_fn hen (by simp only [go_sem]) ?_
  simp only [go_sem, Nat.reduceEqDiff, reduceIte, Nat.reduceAdd, Nat.reduceMul, Nat.reduceLeDiff, Int.reduceLT, Int.reduceLE, Int.reduceToNat, Int.reduceAdd, Int.reduceNeg, Int.reduceEq]
  exact fr_set (by simp only [go_sem])
theorem key_len (n : Nat) : (keyOf n).1.length ≤ 12 ∧ (keyOf n).2.1.length ≤ 12 ∧ 0 ≤ (keyOf n).2.2 ∧ (keyOf n).2.2 < 3 := by
  refine ⟨?_, ?_, ?_, ?_⟩
  · simp only [keyOf]; split
    · simp
    · split <;> simp
  · simp only [keyOf]; split
    · simp
    · split <;> simp
  · simp only [keyOf]; omega
  · simp only [keyOf]; omega
theorem flat_len_le {α : Type} (f : α → List UInt8) (k : Nat) : ∀ l : List α, (∀ x ∈ l, (f x).length ≤ k) → ((l.map f).flatten).length ≤ l.length * k
  | [], _ => by simp
  | x :: l, h => by
    have h1 := h x List.mem_cons_self
    have h2 := flat_len_le f k l fun y hy => h y (List.mem_cons_of_mem _ hy)
    simp only [List.map_cons, List.flatten_cons, List.length_append, List.length_cons, Nat.succ_mul]
    omega
theorem item_text (x : Item) : EntOk x.ent ∧ x.ent.sites.length ≤ 4 ∧ (entText x.ent).length ≤ 500 := by
  have hn := nOf_le x.kind
  have hk : ∀ k ∈ x.ent.sites, ∃ m, k = keyOf m := by
    intro k hk
    simp only [Item.ent, List.mem_map] at hk
    obtain ⟨m, _, rfl⟩ := hk
    exact ⟨m, rfl⟩
  have hkt : ∀ k ∈ x.ent.sites, (keyText k).length ≤ 60 := by
    intro k hkm
    obtain ⟨m, rfl⟩ := hk k hkm
    have h1 := key_len m
    have h2 := itoa_len (keyOf m).2.2
    simp only [keyText, List.length_cons, List.length_append, List.length_nil]
    omega
  have hs := ent_sites x
  refine ⟨⟨?_, ?_, ?_, ?_⟩, by omega, ?_⟩
  · simp only [Item.ent, I64]; omega
  · simp only [Item.ent, I64]; omega
  · simp only [Item.ent, I64]; omega
  · intro k hkm
    obtain ⟨m, rfl⟩ := hk k hkm
    have h1 := key_len m
    unfold I64
    omega
  · have h1 := flat_len_le keyText 60 x.ent.sites hkt
    have h2 := itoa_len x.ent.kind
    have h3 := itoa_len x.ent.seen
    have h4 := itoa_len x.ent.missed
    have h5 : x.ent.sites.length * 60 ≤ 240 := by omega
    simp only [entText, headText, List.length_cons, List.length_append, List.length_nil]
    omega
end Go.Proofs.YtikkmcchhddfoaaGreatDoor.KM
