/- Walks: the program's texts of declarations and programs. -/
import Derived.Test.YtlehfgdhebapeaaDoorGg
import Derived.Test.YtlehfgdhebapeaaDoorGd
set_option linter.all false
namespace Go.Proofs.YtlehfgdhebapeaaDoor.KM
open Go
theorem init_fn {n : Int} (h : -9223372036854775808 ≤ n ∧ n ≤ 9223372036854775807) : Fn TT PT 47 [.int .i64 n] (.str (initE n)) := by
  refine Fn_go T47 rfl ?_
  by_cases hz : n = 0
  · subst hz
    simp only [go_sem, Int.reduceBEq]
    exact fr_eq rfl rfl
  · have b : (n == 0) = false := by simp [hz]
    have hf : fmtS [.int .i64 n, .int .i64 10] = some (.str (itoaE n)) := by unfold fmtS; exact if_pos h
    have hl := itoa_le n
    have a1 : binS .add [32, 61, 32] (itoaE n) = some (.str (32 :: 61 :: 32 :: itoaE n)) := bin_add (by simp; omega) rfl
    simp only [go_sem, b]
    refine wx_pr P51 (by simp only [go_sem]) hf ?_
    simp only [go_sem, ↓a1]
    exact fr_eq rfl (by simp [initE, hz])
theorem fdecl_fn {d : Dp} (h : CnD d) (hn : d.nm.length ≤ 100000000000000) (ho : d.kind = 5 → d.on.length ≤ 100000000000000) : Fn TT PT 24 [.agg d.row] (.str (declE d)) := by
  obtain ⟨⟨k1, k2⟩, ⟨h0, h1, h2⟩, i1, i2, h3⟩ := h
  obtain ⟨kind, line, nm, size, init, on⟩ := d
  simp only at k1 k2 h0 h1 h2 i1 i2 h3 hn ho
  unfold Dp.row
  simp only
  have hk : kind = 1 ∨ kind = 2 ∨ kind = 3 ∨ kind = 4 ∨ kind = 5 ∨ kind = 6 := by omega
  have hin := init_fn ⟨i1, i2⟩
  have l1 := itoa_le size
  have l2 : (initE init).length ≤ 24 := by
    unfold initE
    have := itoa_le init
    split <;> simp
    omega
  refine Fn_go T24 rfl ?_
  rcases hk with rfl | hk
  · by_cases hz : size = 0
    · subst hz
      have a1 : binS .add [118, 97, 114, 32] nm = some (.str (118 :: 97 :: 114 :: 32 :: nm)) := bin_add (by simp; omega) rfl
      have a2 : binS .add (118 :: 97 :: 114 :: 32 :: nm) (initE init) = some (.str (118 :: 97 :: 114 :: 32 :: (nm ++ initE init))) := bin_add (by simp; omega) rfl
      have n1 : ((0 : Int) != 0) = false := by decide
      simp only [go_sem, Int.reduceBEq, n1, ↓a1]
      refine wx_fn hin (by simp only [go_sem]) ?_
      simp only [go_sem, ↓a2]
      exact fr_eq rfl (by simp [declE])
    · have n1 : (size != 0) = true := by simp [hz]
      have hf : itoaS [.int .i64 size] = some (.str (itoaE size)) := by unfold itoaS; exact if_pos ⟨by omega, h1⟩
      have a1 : binS .add [118, 97, 114, 32] nm = some (.str (118 :: 97 :: 114 :: 32 :: nm)) := bin_add (by simp; omega) rfl
      have a2 : binS .add [91] (itoaE size) = some (.str (91 :: itoaE size)) := bin_add (by simp; omega) rfl
      have a3 : binS .add (91 :: itoaE size) [93] = some (.str (91 :: (itoaE size ++ [93]))) := bin_add (by simp; omega) rfl
      have a4 : binS .add (118 :: 97 :: 114 :: 32 :: nm) (91 :: (itoaE size ++ [93])) = some (.str (118 :: 97 :: 114 :: 32 :: (nm ++ 91 :: (itoaE size ++ [93])))) := bin_add (by simp; omega) rfl
      have a5 : binS .add (118 :: 97 :: 114 :: 32 :: (nm ++ 91 :: (itoaE size ++ [93]))) (initE init) = some (.str (118 :: 97 :: 114 :: 32 :: (nm ++ 91 :: (itoaE size ++ 93 :: initE init)))) := bin_add (by simp; omega) (by simp)
      simp only [go_sem, Int.reduceBEq, n1, ↓a1]
      refine wx_pr P46 (by simp only [go_sem]) hf ?_
      simp only [go_sem, ↓a2, ↓a3, ↓a4]
      refine wx_fn hin (by simp only [go_sem]) ?_
      simp only [go_sem, ↓a5]
      exact fr_eq rfl (by simp [declE, hz])
  rcases hk with rfl | hk
  · have a1 : binS .add [118, 111, 108, 97, 116, 105, 108, 101, 32] nm = some (.str (118 :: 111 :: 108 :: 97 :: 116 :: 105 :: 108 :: 101 :: 32 :: nm)) := bin_add (by simp; omega) rfl
    have a2 : binS .add (118 :: 111 :: 108 :: 97 :: 116 :: 105 :: 108 :: 101 :: 32 :: nm) (initE init) = some (.str (118 :: 111 :: 108 :: 97 :: 116 :: 105 :: 108 :: 101 :: 32 :: (nm ++ initE init))) := bin_add (by simp; omega) rfl
    simp only [go_sem, Int.reduceBEq]
    refine w_drw (by kernel_rfl) ?_
    simp only [go_sem, ↓a1]
    refine wgx_fn hin (by simp only [go_sem]) ?_
    simp only [go_sem, ↓a2]
    exact fr_eq rfl (by simp [declE])
  rcases hk with rfl | hk
  · have a1 : binS .add [109, 117, 116, 101, 120, 32] nm = some (.str (109 :: 117 :: 116 :: 101 :: 120 :: 32 :: nm)) := bin_add (by simp; omega) rfl
    simp only [go_sem, Int.reduceBEq, ↓a1]
    exact fr_eq rfl (by simp [declE])
  rcases hk with rfl | hk
  · have a1 : binS .add [114, 119, 108, 111, 99, 107, 32] nm = some (.str (114 :: 119 :: 108 :: 111 :: 99 :: 107 :: 32 :: nm)) := bin_add (by simp; omega) rfl
    simp only [go_sem, Int.reduceBEq, ↓a1]
    exact fr_eq rfl (by simp [declE])
  rcases hk with rfl | rfl
  · have ho := ho rfl
    have a1 : binS .add [99, 111, 110, 100, 32] nm = some (.str (99 :: 111 :: 110 :: 100 :: 32 :: nm)) := bin_add (by simp; omega) rfl
    have a2 : binS .add (99 :: 111 :: 110 :: 100 :: 32 :: nm) [32] = some (.str (99 :: 111 :: 110 :: 100 :: 32 :: (nm ++ [32]))) := bin_add (by simp; omega) rfl
    have a3 : binS .add (99 :: 111 :: 110 :: 100 :: 32 :: (nm ++ [32])) on = some (.str (99 :: 111 :: 110 :: 100 :: 32 :: (nm ++ 32 :: on))) := bin_add (by simp; omega) (by simp)
    simp only [go_sem, Int.reduceBEq, ↓a1, ↓a2, ↓a3]
    exact fr_eq rfl (by simp [declE])
  · have a1 : binS .add [102, 117, 116, 117, 114, 101, 32] nm = some (.str (102 :: 117 :: 116 :: 117 :: 114 :: 101 :: 32 :: nm)) := bin_add (by simp; omega) rfl
    simp only [go_sem, Int.reduceBEq, ↓a1]
    exact fr_eq rfl (by simp [declE])
/-- a statement at a depth -/
theorem fstmtI_fn {x : Sp} (h : CnS x) (d : Nat) (D : Int) (g0 : max D 0 = (d : Int)) (hl : (x.txt d).length ≤ 10000000000000) (hd : d + x.sz ≤ 1073741823) : Fn TT PT 13 [.agg x.row, .int .i64 D] (.str (x.txt d)) := by
  have hset := sset x
  refine Fn_go T13 rfl ?_
  have w0 : WB [.row x.row 42 0 0, .row [.nilp, .nils] 65 0 0] [.row x.row 42 0 0, .row [.nilp, .nils] 65 0 0] 1 [] := by
    refine wb_start (u := .nils) ⟨.nilp, rfl, .inl rfl, gw_nil⟩ ?_
    exact cl_push (cl_row (s := []) (fun _ h => by cases h) hset) (by simp [Ob.refs, refsL, V.refs])
  obtain ⟨s1, q1, v1⟩ := wstmt_th h _ 1 [] d w0 (by simpa using hl) hd
  obtain ⟨s2, hs2⟩ := wb_str v1
  rw [List.nil_append] at hs2
  have hrow := srow11 x
  rw [hrow] at q1 hset ⊢
  simp only [go_sem, g0]
  refine wx_th q1 ?_
  simp only [go_sem]
  refine wx_call (.spec T27 rfl rfl hs2) ?_
  simp only [go_sem]
  exact fr_set rfl
theorem join_lib : ∀ l : List (List UInt8), Lib.join l [44, 32] = joinE l
  | [] => rfl
  | [a] => by simp [Lib.join, joinE, List.intercalate]
  | a :: b :: l => by
    have h := join_lib (b :: l)
    rw [joinE, ← h]
    simp [Lib.join, List.intercalate]
theorem joinS_SL (z : Bool) (t : Nat) (l : List (List UInt8)) (h : (joinE l).length ≤ 10000000000000) : joinS [SL z t (l.map fun s => [V.str s]), .str [44, 32]] = some (.str (joinE l)) := by
  have hll := locals_len l
  unfold SL
  split
  · rename_i hc
    have : l = [] := by
      cases l
      · rfl
      · simp at hc
    subst this
    rfl
  · unfold joinS
    simp only [strRows_map, Option.bind_some, join_lib, List.length_map]
    exact if_pos ⟨by omega, by omega⟩
theorem pbody_w {K : List It} {Q : Env → St → Prop} {C D E : V} {b : Nat} {z : Bool} {t : Nat} {L : List Sp} {s0 s : St} {l : List UInt8} (hW : ∀ x ∈ L, Wr x) (h : WB s0 s b l) (hl : l.length + (Sp.txts 1 L).length ≤ 10000000000000) (hd : 1 + Sp.szs L ≤ 1073741823) (hn : L.length ≤ 1000000000000000)
    (hk : ∀ s', WB s0 s' b (l ++ Sp.txts 1 L) → W TT PT K [(3, .ptr b 0 0), (23, C), (24, D), (25, E), (40, SL z t (L.map Sp.row)), (41, .int .i64 (L.length : Int)), (42, .int .i64 (L.length : Int))] s' Q) :
    W TT PT (.l [3, 23, 24, 25, 40, 41, 42] lp8_1 :: .b 4 :: K) [(3, .ptr b 0 0), (23, C), (24, D), (25, E), (40, SL z t (L.map Sp.row)), (41, .int .i64 (L.length : Int)), (42, .int .i64 0)] s Q := by
  refine loop_w (α := Nat × St × List UInt8) (fun a => L.length - a.1) (fun a => [(3, .ptr b 0 0), (23, C), (24, D), (25, E), (40, SL z t (L.map Sp.row)), (41, .int .i64 (L.length : Int)), (42, .int .i64 (a.1 : Int))]) (fun a => a.2.1) (fun a => a.1 ≤ L.length ∧ WB s0 a.2.1 b a.2.2 ∧ a.2.2 ++ Sp.txts 1 (L.drop a.1) = l ++ Sp.txts 1 L) ?_ (0, s, l) ⟨Nat.zero_le _, h, rfl⟩
  rintro ⟨i, s1, c⟩ ⟨hi, hw, hc⟩ ih
  simp only at hi hw hc ih
  refine w_rep (by delta lp8_1; exact rfl) ?_
  have hcl := congrArg List.length hc
  simp only [List.length_append] at hcl
  rcases Nat.lt_or_ge i L.length with h' | h'
  · obtain ⟨x, hx, hdr, hm⟩ := at_some h'
    rw [hdr, stxts_cons] at hc hcl
    rw [List.length_append] at hcl
    have hsz := ssz_mem hm
    obtain ⟨s2, e2⟩ : ∃ s2, s2 = s1 ++ [Ob.row x.row 42 0 0] := ⟨_, rfl⟩
    have w2 : WB s0 s2 b c := by rw [e2]; exact wb_row hw x
    have k2 : s2[s1.length]? = some (.row x.row 42 0 0) := by rw [e2, List.getElem?_append_right (Nat.le_refl _), Nat.sub_self]; rfl
    obtain ⟨s3, q3, v3⟩ := hW x hm s2 b c 1 (wb_self w2) (by omega) (by omega)
    have hrow := srow11 x
    rw [hrow] at e2 k2 q3
    rw [e2] at q3 k2
    rw [Int.natCast_one] at q3
    simp only [go_sem, lt_t h', List.getElem?_map, hx, hrow]
    refine wx_th q3 ?_
    simp only [go_sem, inc64 (show i < 9223372036854775807 by omega)]
    exact W_keep (ih (i + 1, s3, c ++ x.txt 1) (by simp; omega) ⟨by simp; omega, wb_trans w2 v3, by simp only; rw [List.append_assoc]; exact hc⟩) rfl
  · obtain rfl : i = L.length := by omega
    rw [List.drop_eq_nil_of_le h', show Sp.txts 1 [] = [] by rw [Sp.txts], List.append_nil] at hc
    subst hc
    simp only [go_sem, lt_f h']
    exact hk s1 hw
theorem fprog_fn {p : Gp} (h : CnG p) (hl : (progE p).length ≤ 10000000000000) (hz : ∀ t ∈ p.thrs, Sp.szs t.body ≤ 1073741822) : Fn TT PT 8 [.agg p.row] (.str (progE p)) := by
  obtain ⟨hD, hT⟩ := h
  obtain ⟨dz, dt, decls, tz, tt, thrs⟩ := p
  simp only at hD hT hz
  unfold progE at hl ⊢
  simp only at hl ⊢
  unfold Gp.row
  simp only
  have n1 : (decls.map Dp.row).length = decls.length := List.length_map ..
  have n2 : (thrs.map Tp.row).length = thrs.length := List.length_map ..
  rw [List.length_append] at hl
  have c1 := flatE_count (fun d => declE d ++ [59, 10]) (fun x => by simp) decls
  have c2 := flatE_count thrE (fun x => by simp [thrE]) thrs
  refine Fn_go T8 rfl ?_
  obtain ⟨s0, e0⟩ : ∃ s0 : St, s0 = [.row [SL dz dt (decls.map Dp.row), SL tz tt (thrs.map Tp.row)] 26 0 0, .row [.nilp, .nils] 65 0 0] := ⟨_, rfl⟩
  have w0 : WB s0 s0 1 [] := by
    subst e0
    refine wb_start (u := .nils) ⟨.nilp, rfl, .inl rfl, gw_nil⟩ ?_
    exact cl_push (cl_row (s := []) (fun _ h => by cases h) (by simp only [go_sem])) (by simp [Ob.refs, refsL, V.refs])
  have k0 : s0[0]? = some (.row [SL dz dt (decls.map Dp.row), SL tz tt (thrs.map Tp.row)] 26 0 0) := by subst e0; rfl
  simp only [go_sem, n1]
  rw [← e0]
  clear e0
  refine loop_w (α := Nat × St × List UInt8) (fun a => decls.length - a.1) (fun a => [(1, .ptr 0 0 0), (3, .ptr 1 0 0), (11, SL dz dt (decls.map Dp.row)), (12, .int .i64 (decls.length : Int)), (13, .int .i64 (a.1 : Int))]) (fun a => a.2.1) (fun a => a.1 ≤ decls.length ∧ WB s0 a.2.1 1 a.2.2 ∧ a.2.2 ++ ((decls.drop a.1).map fun d => declE d ++ [59, 10]).flatten = (decls.map fun d => declE d ++ [59, 10]).flatten) ?_ (0, s0, []) ⟨Nat.zero_le _, w0, rfl⟩
  rintro ⟨i, s1, c⟩ ⟨hi, hw, hc⟩ ih
  simp only at hi hw hc ih
  refine w_rep (by delta lp8_0; exact rfl) ?_
  have hcl := congrArg List.length hc
  simp only [List.length_append] at hcl
  rcases Nat.lt_or_ge i decls.length with h' | h'
  · obtain ⟨x, hx, hd, hm⟩ := at_some h'
    rw [hd, List.map_cons, List.flatten_cons] at hc hcl
    simp only [List.length_append, List.length_cons, List.length_nil] at hcl
    obtain ⟨e1, e2⟩ := declE_in (hD x hm).kind
    have hf := fdecl_fn (hD x hm) (by omega) (fun h5 => by have := e2 h5; omega)
    obtain ⟨s2, e2⟩ : ∃ s2, s2 = s1 ++ [Ob.row x.row 60 0 0] := ⟨_, rfl⟩
    have w2 : WB s0 s2 1 c := by rw [e2]; exact wb_push hw (by unfold Dp.row; rfl)
    obtain ⟨s3, q3, w3, v3⟩ := wb_write w2 (declE x) (by omega)
    obtain ⟨s4, q4, w4, v4⟩ := wb_write w3 [59, 10] (by simp; omega)
    have hrow : x.row = [.int .i64 x.kind, .int .i64 x.line, .str x.nm, .int .i64 x.size, .int .i64 x.init, .str x.on] := rfl
    rw [hrow] at e2 hf
    rw [e2] at q3
    simp only [go_sem, lt_t h', List.getElem?_map, hx, hrow]
    refine wx_fn hf (by simp only [go_sem]) ?_
    simp only [go_sem]
    refine wx_th q3 ?_
    simp only [go_sem]
    refine wx_th q4 ?_
    simp only [go_sem, inc64 (show i < 9223372036854775807 by omega)]
    exact W_keep (ih (i + 1, s4, c ++ declE x ++ [59, 10]) (by simp; omega) ⟨by simp; omega, w4, by simp only; simpa using hc⟩) rfl
  · obtain rfl : i = decls.length := by omega
    rw [List.drop_eq_nil_of_le h'] at hc
    simp only [List.map_nil, List.flatten_nil, List.append_nil] at hc
    subst hc
    clear ih
    have k1 := hw.2.2.2 0 _ _ _ _ (by decide) (by decide) k0
    simp only [go_sem, k1, n2, lt_f h']
    refine loop_w (α := Nat × St × List UInt8) (fun a => thrs.length - a.1) (fun a => [(3, .ptr 1 0 0), (23, SL tz tt (thrs.map Tp.row)), (24, .int .i64 (thrs.length : Int)), (25, .int .i64 (a.1 : Int))]) (fun a => a.2.1) (fun a => a.1 ≤ thrs.length ∧ WB s0 a.2.1 1 a.2.2 ∧ a.2.2 ++ ((thrs.drop a.1).map thrE).flatten = (decls.map fun d => declE d ++ [59, 10]).flatten ++ (thrs.map thrE).flatten) ?_ (0, s1, _) ⟨Nat.zero_le _, hw, rfl⟩
    rintro ⟨i, s2, c⟩ ⟨hi, hw2, hc⟩ ih
    simp only at hi hw2 hc ih
    refine w_rep (by delta lp8_2; exact rfl) ?_
    have hcl := congrArg List.length hc
    simp only [List.length_append] at hcl
    rcases Nat.lt_or_ge i thrs.length with h' | h'
    · obtain ⟨x, hx, hd, hm⟩ := at_some h'
      rw [hd, List.map_cons, List.flatten_cons] at hc hcl
      rw [List.length_append] at hcl
      have hth := hT x hm
      have hzx := hz x hm
      obtain ⟨nm, line, lz, lt, locals, bz, bt, body⟩ := x
      simp only at hth hzx
      have hlen : (thrE ⟨nm, line, lz, lt, locals, bz, bt, body⟩).length = nm.length + (joinE locals).length + (Sp.txts 1 body).length + 14 := by
        simp [thrE]
        omega
      have hbn : s2.length ≠ 1 := by
        have := hw2.2.2.1
        have := (List.getElem?_eq_some_iff.1 hw2.1.choose_spec.choose_spec.1).1
        omega
      have hbl : (body.map Sp.row).length = body.length := List.length_map ..
      have hlb := list_bound body 1
      obtain ⟨s3, e3⟩ : ∃ s3, s3 = s2 ++ [Ob.row [.str nm, .int .i64 line, SL lz lt (locals.map fun x => [V.str x]), SL bz bt (body.map Sp.row)] 35 0 0] := ⟨_, rfl⟩
      have w3 : WB s0 s3 1 c := by rw [e3]; exact wb_push hw2 (by simp only [go_sem])
      have k3 : s3[s2.length]? = some (.row [.str nm, .int .i64 line, SL lz lt (locals.map fun x => [V.str x]), SL bz bt (body.map Sp.row)] 35 0 0) := by rw [e3, List.getElem?_append_right (Nat.le_refl _), Nat.sub_self]; rfl
      obtain ⟨s4, q4, w4, v4⟩ := wb_write w3 [116, 104, 114, 101, 97, 100, 32] (by simp; omega)
      have k4 := v4.2.2.2 s2.length _ _ _ _ hbn (by decide) k3
      obtain ⟨s5, q5, w5, v5⟩ := wb_write w4 nm (by simp; omega)
      have k5 := v5.2.2.2 s2.length _ _ _ _ hbn (by decide) k4
      obtain ⟨s6, q6, w6, v6⟩ := wb_write w5 [40] (by simp; omega)
      have k6 := v6.2.2.2 s2.length _ _ _ _ hbn (by decide) k5
      obtain ⟨s7, q7, w7, v7⟩ := wb_write w6 (joinE locals) (by simp; omega)
      have k7 := v7.2.2.2 s2.length _ _ _ _ hbn (by decide) k6
      obtain ⟨s8, q8, w8, v8⟩ := wb_write w7 [41, 32, 123, 10] (by simp; omega)
      have k8 := v8.2.2.2 s2.length _ _ _ _ hbn (by decide) k7
      have hrow : Tp.row ⟨nm, line, lz, lt, locals, bz, bt, body⟩ = [.str nm, .int .i64 line, SL lz lt (locals.map fun x => [V.str x]), SL bz bt (body.map Sp.row)] := rfl
      have hj := joinS_SL lz lt locals (by omega)
      rw [e3] at q4
      simp only [go_sem, lt_t h', List.getElem?_map, hx, hrow]
      refine wx_th q4 ?_
      simp only [go_sem, k4]
      refine wx_th q5 ?_
      simp only [go_sem]
      refine wx_th q6 ?_
      simp only [go_sem, k6]
      refine wx_pr P25 (by simp only [go_sem]) hj ?_
      simp only [go_sem]
      refine wx_th q7 ?_
      simp only [go_sem]
      refine wx_th q8 ?_
      simp only [go_sem, k8, hbl]
      refine pbody_w (L := body) (fun y hy => wstmt_th (hth y hy)) w8 (by simp; omega) (by omega) (by omega) fun s9 w9 => ?_
      obtain ⟨s10, q10, w10, v10⟩ := wb_write w9 [125, 10] (by simp; omega)
      simp only [go_sem]
      refine wx_th q10 ?_
      simp only [go_sem, inc64 (show i < 9223372036854775807 by omega)]
      refine W_keep (ih (i + 1, s10, c ++ thrE ⟨nm, line, lz, lt, locals, bz, bt, body⟩) (by simp; omega) ⟨by simp; omega, by simpa [thrE] using w10, by simp only; rw [List.append_assoc]; exact hc⟩) rfl
    · obtain rfl : i = thrs.length := by omega
      rw [List.drop_eq_nil_of_le h'] at hc
      simp only [List.map_nil, List.flatten_nil, List.append_nil] at hc
      subst hc
      obtain ⟨s3, hs3⟩ := wb_str hw2
      simp only [go_sem, lt_f h']
      refine wx_call (.spec T27 rfl rfl hs3) ?_
      simp only [go_sem]
      exact fr_set rfl
end Go.Proofs.YtlehfgdhebapeaaDoor.KM
