/- Walks: the law of the lines of a program's text. -/
import Derived.Test.YtlehfgdhebapeaaDoorIo
import Derived.Test.YtlehfgdhebapeaaDoorMm
import Derived.Test.YtlehfgdhebapeaaDoorGh
import Derived.Test.YtlehfgdhebapeaaDoorGd
set_option linter.all false
namespace Go.Proofs.YtlehfgdhebapeaaDoor.KM
open Go
theorem nnP (i : Nat) : (0 ≤ (i : Int)) = True := eq_true (Int.natCast_nonneg i)
theorem u8_eqP (c : UInt8) (n : Nat) (hn : n < 256) : (((c.toNat : Int)) == (n : Int)) = (c == UInt8.ofNat n) := by
  by_cases h : c = UInt8.ofNat n
  · subst h
    simp [UInt8.toNat_ofNat, Nat.mod_eq_of_lt hn]
  · have : (c.toNat : Int) ≠ n := fun e => h (by
      have : c.toNat = n := by omega
      exact UInt8.toNat_inj.1 (by rw [this]; simp [UInt8.toNat_ofNat, Nat.mod_eq_of_lt hn]))
    rw [beq_eq_false_iff_ne.2 h, beq_eq_false_iff_ne.2 this]
theorem brows_nP (l : List UInt8) : (byteRows l).length = l.length := by simp [byteRows]
theorem cells2P {a b : V} (h : [a, b].all V.rowB = true) : a.cellB = true ∧ b.cellB = true := by
  simp only [List.all_cons, List.all_nil, Bool.and_true, Bool.and_eq_true] at h
  exact ⟨row_cell h.1, row_cell h.2⟩
theorem gsetP (x : Gp) : x.row.all V.rowB = true := by
  unfold Gp.row
  simp only [List.all_cons, List.all_nil, sl_rowB]
  rfl
theorem growP (x : Gp) : x.row = [SL x.dz x.dt (x.decls.map Dp.row), SL x.tz x.tt (x.thrs.map Tp.row)] := rfl
theorem trowP (t : Tp) : t.row = [.str t.nm, .int .i64 t.line, SL t.lz t.lt (t.locals.map fun s => [V.str s]), SL t.bz t.bt (t.body.map Sp.row)] := rfl
mutual
theorem lns_bulk : ∀ (s : Sp), s.lns ≤ 3 * bulkRow s.row
  | ⟨op, line, nm, arg, iz, it, idx, ex, bz, bt, body, ez, et, els⟩ => by
    have h1 := lnss_bulk body
    have h2 := lnss_bulk els
    rw [lns_eq, bulks]
    simp only
    split <;> split <;> omega
theorem lnss_bulk : ∀ (l : List Sp), Sp.lnss l ≤ 3 * bulkRows (l.map Sp.row)
  | [] => by simp [Sp.lnss]
  | x :: l => by
    have h1 := lns_bulk x
    have h2 := lnss_bulk l
    rw [List.map_cons, bulkRows, Sp.lnss]
    omega
end
theorem lnss_drop {l : List Sp} {i : Nat} {y : Sp} (h : l.drop i = y :: l.drop (i + 1)) : Sp.lnss (l.drop i) = y.lns + Sp.lnss (l.drop (i + 1)) := by rw [h, Sp.lnss]
set_option maxHeartbeats 2000000 in
theorem lines_fn : ∀ (N : Nat) (z : Bool) (t : Nat) (l : List Sp), bulkRows (l.map Sp.row) ≤ N → N ≤ 1000000000 → Fn TT PT 12 [SL z t (l.map Sp.row)] (.int .i64 (Sp.lnss l : Int))
  | N, z, t, l, h, hN => by
    have h2 := bulk_len (f := Sp.row) (fun x => by rw [bulks]; omega) l
    have hlen : (l.map Sp.row).length = l.length := List.length_map ..
    have hall := lnss_bulk l
    refine Fn_go T12 rfl ?_
    simp only [go_sem, hlen]
    refine loop_w (α := Nat × Nat) (fun a => l.length - a.1) (fun a => [(0, SL z t (l.map Sp.row)), (3, .int .i64 (a.2 : Int)), (4, .int .i64 (a.1 : Int))]) (fun _ => []) (fun a => a.1 ≤ l.length ∧ a.2 + Sp.lnss (l.drop a.1) = Sp.lnss l) ?_ (0, 0) ⟨Nat.zero_le _, by simp⟩
    rintro ⟨i, n⟩ ⟨hi, hn⟩ ih
    simp only at hi hn ih
    refine w_rep (by delta lp12_0; exact rfl) ?_
    rcases Nat.lt_or_ge i l.length with h' | h'
    rotate_left
    · rw [List.drop_eq_nil_of_le h', Sp.lnss, Nat.add_zero] at hn
      subst hn
      simp only [go_sem, hlen, lt_f h']
      exact fr_set rfl
    obtain ⟨y, hy, hd, hm⟩ := at_some h'
    have hb := bulk_mem (f := Sp.row) hm
    have hbs := bulks y
    have hln := lnss_drop hd
    have hye := lns_eq y
    have hrow := srow11 y
    cases N with
    | zero => omega
    | succ N =>
      have hf := lines_fn N y.bz y.bt y.body (by omega) (by omega)
      have hg := lines_fn N y.ez y.et y.els (by omega) (by omega)
      have hlb := lnss_bulk y.body
      have hle := lnss_bulk y.els
      have e1 : IntKind.i64.wrap ((n : Int) + 1) = ((n + 1 : Nat) : Int) := by rw [wrap64 (by omega)]; rfl
      have e2 : IntKind.i64.wrap (((n + 1 : Nat) : Int) + 1) = ((n + 2 : Nat) : Int) := by rw [wrap64 (by omega)]; omega
      have e3 : IntKind.i64.wrap (((n + 2 : Nat) : Int) + (Sp.lnss y.body : Int)) = ((n + 2 + Sp.lnss y.body : Nat) : Int) := by rw [wrap64 (by omega)]; omega
      have hen : (y.els.map Sp.row).length = y.els.length := List.length_map ..
      have e4 : ∀ m : Nat, m ≤ 4000000000 → IntKind.i64.wrap ((m : Int) + 1) = ((m + 1 : Nat) : Int) := fun m hm => by rw [wrap64 (by omega)]; rfl
      have e5 : ∀ m : Nat, m ≤ 4000000000 → IntKind.i64.wrap (((m + 1 : Nat) : Int) + (Sp.lnss y.els : Int)) = ((m + 1 + Sp.lnss y.els : Nat) : Int) := fun m hm => by rw [wrap64 (by omega)]; omega
      have ei := inc64 (show i < 9223372036854775807 by omega)
      have hc : ((y.op < 2 ∨ 8 < y.op) ∧ bodyE y.op = false) ∨ (2 ≤ y.op ∧ y.op ≤ 8 ∧ bodyE y.op = true) := by
        unfold bodyE
        by_cases c1 : 2 ≤ y.op
        · by_cases c2 : y.op ≤ 8
          · exact .inr ⟨c1, c2, by simp [c1, c2]⟩
          · exact .inl ⟨.inr (by omega), by simp [c2]⟩
        · exact .inl ⟨.inl (by omega), by simp [c1]⟩
      have hels : (y.els = [] ∧ y.els.isEmpty = true) ∨ (0 < y.els.length ∧ y.els.isEmpty = false) := by
        cases y.els with
        | nil => exact .inl ⟨rfl, rfl⟩
        | cons a r => exact .inr ⟨by simp, rfl⟩
      rcases hc with ⟨hc, hbo⟩ | ⟨c1, c2, hbo⟩
      · rw [hbo] at hye
        simp only [Bool.false_eq_true, if_false] at hye
        rcases hc with hc | hc
        · have f1 : ((2 : Int) ≤ y.op) = False := eq_false (by omega)
          simp only [go_sem, hlen, lt_t h', e1, List.getElem?_map, hy, hrow, ge_iff_le, f1]
          rcases hels with ⟨g1, g2⟩ | ⟨g1, g2⟩
          · have f5 : ((0 : Int) < (y.els.length : Int)) = False := eq_false (by rw [g1]; simp)
            simp only [go_sem, hlen, List.getElem?_map, hy, hrow, hen, gt_iff_lt, f5, ei]
            exact W_keep (ih (i + 1, n + 1) (by simp only; omega) ⟨h', by rw [g2] at hye; simp only [if_true] at hye; simp only; omega⟩) rfl
          · have f5 : ((0 : Int) < (y.els.length : Int)) = True := eq_true (by omega)
            have e4' := e4 (n + 1) (by omega)
            have e5' := e5 (n + 1) (by omega)
            simp only [go_sem, hlen, List.getElem?_map, hy, hrow, hen, gt_iff_lt, f5, e4']
            refine wx_fn hg (by simp only [go_sem]) ?_
            simp only [go_sem, e5', ei]
            exact W_keep (ih (i + 1, n + 1 + 1 + Sp.lnss y.els) (by simp only; omega) ⟨h', by rw [g2] at hye; simp only [Bool.false_eq_true, if_false] at hye; simp only; omega⟩) rfl
        · have f1 : ((2 : Int) ≤ y.op) = True := eq_true (by omega)
          have f2 : (y.op ≤ 8) = False := eq_false (by omega)
          simp only [go_sem, hlen, lt_t h', e1, List.getElem?_map, hy, hrow, ge_iff_le, f1, f2]
          rcases hels with ⟨g1, g2⟩ | ⟨g1, g2⟩
          · have f5 : ((0 : Int) < (y.els.length : Int)) = False := eq_false (by rw [g1]; simp)
            simp only [go_sem, hlen, List.getElem?_map, hy, hrow, hen, gt_iff_lt, f5, ei]
            exact W_keep (ih (i + 1, n + 1) (by simp only; omega) ⟨h', by rw [g2] at hye; simp only [if_true] at hye; simp only; omega⟩) rfl
          · have f5 : ((0 : Int) < (y.els.length : Int)) = True := eq_true (by omega)
            have e4' := e4 (n + 1) (by omega)
            have e5' := e5 (n + 1) (by omega)
            simp only [go_sem, hlen, List.getElem?_map, hy, hrow, hen, gt_iff_lt, f5, e4']
            refine wx_fn hg (by simp only [go_sem]) ?_
            simp only [go_sem, e5', ei]
            exact W_keep (ih (i + 1, n + 1 + 1 + Sp.lnss y.els) (by simp only; omega) ⟨h', by rw [g2] at hye; simp only [Bool.false_eq_true, if_false] at hye; simp only; omega⟩) rfl
      · rw [hbo] at hye
        simp only [if_true] at hye
        have f1 : ((2 : Int) ≤ y.op) = True := eq_true c1
        have f2 : (y.op ≤ 8) = True := eq_true c2
        simp only [go_sem, hlen, lt_t h', e1, e2, List.getElem?_map, hy, hrow, ge_iff_le, f1, f2]
        refine wx_fn hf (by simp only [go_sem]) ?_
        simp only [go_sem, e3]
        rcases hels with ⟨g1, g2⟩ | ⟨g1, g2⟩
        · have f5 : ((0 : Int) < (y.els.length : Int)) = False := eq_false (by rw [g1]; simp)
          simp only [go_sem, hlen, List.getElem?_map, hy, hrow, hen, gt_iff_lt, f5, ei]
          exact W_keep (ih (i + 1, n + 2 + Sp.lnss y.body) (by simp only; omega) ⟨h', by rw [g2] at hye; simp only [if_true] at hye; simp only; omega⟩) rfl
        · have f5 : ((0 : Int) < (y.els.length : Int)) = True := eq_true (by omega)
          have e4' := e4 (n + 2 + Sp.lnss y.body) (by omega)
          have e5' := e5 (n + 2 + Sp.lnss y.body) (by omega)
          simp only [go_sem, hlen, List.getElem?_map, hy, hrow, hen, gt_iff_lt, f5, e4']
          refine wx_fn hg (by simp only [go_sem]) ?_
          simp only [go_sem, e5', ei]
          exact W_keep (ih (i + 1, n + 2 + Sp.lnss y.body + 1 + Sp.lnss y.els) (by simp only; omega) ⟨h', by rw [g2] at hye; simp only [Bool.false_eq_true, if_false] at hye; simp only; omega⟩) rfl
/-! the law of lines -/
def sumB (l : List Tp) : Nat := (l.map fun t => Sp.lnss t.body).sum
theorem progN_eq (p : Gp) : progN p = p.decls.length + 2 * p.thrs.length + sumB p.thrs := by
  have : ∀ l : List Tp, (l.map thrN).sum = 2 * l.length + sumB l := fun l => by
    induction l with
    | nil => rfl
    | cons x l ih =>
      unfold sumB at ih ⊢
      simp only [List.map_cons, List.sum_cons, List.length_cons, thrN]
      omega
  unfold progN
  rw [this]
  omega
set_option maxHeartbeats 2000000 in
theorem lawLines_fn (z : Bool) (t : Nat) (l : List UInt8) (hl : l.length ≤ 9223372036854775807) : Fn TT PT 4 [SL z t (byteRows l)] (.bool true) := by
  have n1 := brows_nP l
  refine Fn_go T4 rfl ?_
  by_cases h200 : 200 < l.length
  · have f1 : ((200 : Int) < (l.length : Int)) = True := eq_true (by omega)
    simp only [go_sem, n1, f1, gt_iff_lt]
    exact fr_eq rfl rfl
  have f1 : ((200 : Int) < (l.length : Int)) = False := eq_false (by omega)
  obtain ⟨p, q1, ok⟩ := mprog_fn z t l hl
  have hblk := ok.blk
  have hbg := bulkg p
  have q2 := fprog_fn (shg_cn ok.sh) (by have := ok.len; omega) fun t ht => by have := ok.siz t ht; omega
  have hpr := growP p
  have hps := gsetP p
  obtain ⟨hx1, hx2⟩ := cells2P (by rw [hpr] at hps; exact hps)
  have hd1 := bulk_len (f := Dp.row) (fun x => by rw [bulkd]; omega) p.decls
  have ht1 := bulk_len (f := Tp.row) (fun x => by rw [bulkt]; omega) p.thrs
  have nd : (p.decls.map Dp.row).length = p.decls.length := List.length_map ..
  have nt : (p.thrs.map Tp.row).length = p.thrs.length := List.length_map ..
  have hnl := prog_nl ok.sh
  rw [progN_eq] at hnl
  obtain ⟨tx, htx⟩ := prog_last ok.sh.some
  have hlen := ok.len
  rw [hpr] at q1 q2
  have w1 : IntKind.i64.wrap (2 * (p.thrs.length : Int)) = ((2 * p.thrs.length : Nat) : Int) := by rw [wrap64 (by omega)]; omega
  have w2 : IntKind.i64.wrap ((p.decls.length : Int) + ((2 * p.thrs.length : Nat) : Int)) = ((p.decls.length + 2 * p.thrs.length : Nat) : Int) := by rw [wrap64 (by omega)]; omega
  simp only [go_sem, n1, f1, gt_iff_lt]
  refine wx_fn q1 (by simp only [go_sem]) ?_
  simp only [go_sem, hx1, hx2, nd, nt, w1, w2]
  refine loop_w (α := Nat × Nat) (fun a => p.thrs.length - a.1) (fun a => [(3, .ptr 0 0 0), (4, .int .i64 (a.2 : Int)), (5, .int .i64 (a.1 : Int))]) (fun _ => [.row [SL p.dz p.dt (p.decls.map Dp.row), SL p.tz p.tt (p.thrs.map Tp.row)] 26 0 0]) (fun a => a.1 ≤ p.thrs.length ∧ a.2 + sumB (p.thrs.drop a.1) = nlC (progE p)) ?_ (0, p.decls.length + 2 * p.thrs.length) ⟨Nat.zero_le _, by simp only [List.drop_zero]; omega⟩
  have hcl : nlC (progE p) ≤ (progE p).length := List.count_le_length
  rintro ⟨i, n⟩ ⟨hi, hn⟩ ih
  simp only at hi hn ih
  refine w_rep (by delta lp4_0; exact rfl) ?_
  rcases Nat.lt_or_ge i p.thrs.length with h' | h'
  · obtain ⟨x, hx, hd, hm⟩ := at_some h'
    have hbt := bulk_mem (f := Tp.row) hm
    rw [bulkt] at hbt
    have hrow := trowP x
    have ql := lines_fn 1000000000 x.bz x.bt x.body (by omega) (Nat.le_refl _)
    have hs : sumB (p.thrs.drop i) = Sp.lnss x.body + sumB (p.thrs.drop (i + 1)) := by rw [hd]; simp [sumB]
    have w3 : IntKind.i64.wrap ((n : Int) + (Sp.lnss x.body : Int)) = ((n + Sp.lnss x.body : Nat) : Int) := by rw [wrap64 (by omega)]; omega
    simp only [go_sem, nt, lt_t h', List.getElem?_map, hx, hrow]
    refine wx_fn ql (by simp only [go_sem]) ?_
    simp only [go_sem, w3, inc64 (show i < 9223372036854775807 by omega)]
    exact W_keep (ih (i + 1, n + Sp.lnss x.body) (by simp only; omega) ⟨h', by simp only; omega⟩) rfl
  rw [List.drop_eq_nil_of_le h', show sumB [] = 0 from rfl, Nat.add_zero] at hn
  clear ih
  simp only [go_sem, nt, lt_f h']
  refine wx_fn q2 (by simp only [go_sem]) ?_
  simp only [go_sem]
  subst hn
  generalize hg : progE p = s at *
  refine loop_w (α := Nat) (fun k => s.length - k) (fun k => [(4, .int .i64 (nlC (s.drop k) : Int)), (6, .str s), (7, .int .i64 (k : Int))]) (fun _ => [.row [SL p.dz p.dt (p.decls.map Dp.row), SL p.tz p.tt (p.thrs.map Tp.row)] 26 0 0]) (fun k => k ≤ s.length) ?_ 0 (Nat.zero_le _)
  intro k hk ih
  refine w_rep (by delta lp4_1; exact rfl) ?_
  rcases Nat.lt_or_ge k s.length with h3 | h3
  · obtain ⟨c, hc⟩ : ∃ c, s[k]? = some c := ⟨_, List.getElem?_eq_getElem h3⟩
    have hdr : s.drop k = c :: s.drop (k + 1) := by rw [List.drop_eq_getElem_cons h3, (List.getElem?_eq_some_iff.1 hc).2]
    have hcn := nl_cons c (s.drop (k + 1))
    rw [← hdr] at hcn
    have e10 : ((c.toNat : Int) == 10) = (c == UInt8.ofNat 10) := u8_eqP c 10 (by decide)
    have hck : nlC (s.drop k) ≤ s.length := Nat.le_trans List.count_le_length (by rw [List.length_drop]; omega)
    by_cases c10 : c = 10
    · have b10 : (c == UInt8.ofNat 10) = true := by rw [c10]; rfl
      rw [if_pos c10] at hcn
      have w5 : IntKind.i64.wrap ((nlC (s.drop k) : Int) - 1) = (nlC (s.drop (k + 1)) : Int) := by rw [wrap64 (by omega)]; omega
      simp only [go_sem, lt_t h3, nnP, hc, e10, b10, w5, inc64 (show k < 9223372036854775807 by omega)]
      exact W_keep (ih (k + 1) (by omega) h3) rfl
    · have b10 : (c == UInt8.ofNat 10) = false := by rw [beq_eq_false_iff_ne]; exact c10
      rw [if_neg c10, Nat.add_zero] at hcn
      rw [hcn]
      simp only [go_sem, lt_t h3, nnP, hc, e10, b10, inc64 (show k < 9223372036854775807 by omega)]
      exact W_keep (ih (k + 1) (by omega) h3) rfl
  · have h0 : nlC (s.drop k) = 0 := by rw [List.drop_eq_nil_of_le h3]; rfl
    have hsl : s.length = tx.length + 1 := by rw [htx]; simp
    have w6 : IntKind.i64.wrap ((s.length : Int) - 1) = (tx.length : Int) := by rw [wrap64 (by omega)]; omega
    have hc : s[tx.length]? = some 10 := by rw [htx]; simp
    have f5 : ((0 : Int) < (s.length : Int)) = True := eq_true (by omega)
    have e10 : (((10 : UInt8).toNat : Int) == 10) = true := by decide
    rw [h0]
    simp only [go_sem, lt_f h3, gt_iff_lt, f5, w6, nnP, hc, e10, Int.cast_ofNat_Int, Int.reduceBEq]
    exact fr_eq rfl (by simp)
set_option maxHeartbeats 2000000 in
theorem lawMade_fn (z : Bool) (t : Nat) (l : List UInt8) (hl : l.length ≤ 9223372036854775807) (D : Int) (hD : -128 ≤ D ∧ D ≤ 127) : Fn TT PT 5 [SL z t (byteRows l), .int .i8 D] (.bool true) := by
  have n1 := brows_nP l
  refine Fn_go T5 rfl ?_
  by_cases h200 : 200 < l.length
  · have f1 : ((200 : Int) < (l.length : Int)) = True := eq_true (by omega)
    simp only [go_sem, n1, f1, gt_iff_lt]
    exact fr_eq rfl rfl
  have f1 : ((200 : Int) < (l.length : Int)) = False := eq_false (by omega)
  obtain ⟨p, q1, ok⟩ := mprog_fn z t l hl
  have hblk := ok.blk
  have hbg := bulkg p
  have q2 := fprog_fn (shg_cn ok.sh) (by have := ok.len; omega) fun t ht => by have := ok.siz t ht; omega
  have q3 := rprog_fn (shg_cn ok.sh) (by have := ok.len; omega)
  have hpr := growP p
  have hps := gsetP p
  have ht1 := bulk_len (f := Tp.row) (fun x => by rw [bulkt]; omega) p.thrs
  have nt : (p.thrs.map Tp.row).length = p.thrs.length := List.length_map ..
  have hthr := ok.sh.thrs
  rw [hpr] at q1 q2 q3 hps
  obtain ⟨hx1, hx2⟩ := cells2P hps
  obtain ⟨d, hd, hd127⟩ : ∃ d : Nat, max D 0 = (d : Int) ∧ d ≤ 127 := ⟨(max D 0).toNat, by omega, by omega⟩
  have ec : IntKind.i64.wrap D = D := wrap64 (by omega)
  simp only [go_sem, n1, f1, gt_iff_lt]
  refine wx_fn q1 (by simp only [go_sem]) ?_
  simp only [go_sem, hx1, hx2]
  refine loop_w (α := Nat × St) (fun a => p.thrs.length - a.1) (fun a => [(1, .int .i8 D), (5, .ptr 0 0 0), (6, .int .i64 (a.1 : Int))]) (fun a => a.2) (fun a => a.1 ≤ p.thrs.length ∧ a.2[0]? = some (.row [SL p.dz p.dt (p.decls.map Dp.row), SL p.tz p.tt (p.thrs.map Tp.row)] 26 0 0)) ?_ (0, _) ⟨Nat.zero_le _, rfl⟩
  rintro ⟨i, s⟩ ⟨hi, hs⟩ ih
  simp only at hi hs ih
  refine w_rep (by delta lp5_1; exact rfl) ?_
  rcases Nat.lt_or_ge i p.thrs.length with h' | h'
  · obtain ⟨x, hx, -, hm⟩ := at_some h'
    have hbt := bulk_mem (f := Tp.row) hm
    rw [bulkt] at hbt
    have hb1 := bulk_len (f := Sp.row) (fun x => by rw [bulks]; omega) x.body
    have nb : (x.body.map Sp.row).length = x.body.length := List.length_map ..
    have hrow := trowP x
    simp only [go_sem, hs, nt, lt_t h']
    refine loop_w (α := Nat × St) (fun a => x.body.length - a.1) (fun a => [(1, .int .i8 D), (5, .ptr 0 0 0), (6, .int .i64 (i : Int)), (7, .int .i64 (a.1 : Int))]) (fun a => a.2) (fun a => a.1 ≤ x.body.length ∧ a.2[0]? = some (.row [SL p.dz p.dt (p.decls.map Dp.row), SL p.tz p.tt (p.thrs.map Tp.row)] 26 0 0)) ?_ (0, s) ⟨Nat.zero_le _, hs⟩
    clear hs s
    rintro ⟨k, s⟩ ⟨hk, hs⟩ jh
    simp only at hk hs jh
    refine w_rep (by delta lp5_0; exact rfl) ?_
    rcases Nat.lt_or_ge k x.body.length with h3 | h3
    rotate_left
    · simp only [go_sem, hs, nt, List.getElem?_map, hx, hrow, nb, lt_f h3, inc64 (show i < 9223372036854775807 by omega)]
      exact W_keep (ih (i + 1, s) (by simp only; omega) ⟨h', hs⟩) rfl
    obtain ⟨y, hy, -, hym⟩ := at_some h3
    have hby := bulk_mem (f := Sp.row) hym
    have hsh := hthr x hm y hym
    have hyl := stxt_bulk (K := 2000000) hsh d (by omega)
    have hyz := szs_bulk hsh
    have hys := sset y
    have hyr := srow11 y
    have hmul : (2000000 + 32) * bulkRow y.row ≤ (2000000 + 32) * 1000000 := Nat.mul_le_mul_left _ (by omega)
    have qf := fstmtI_fn (shs_cn hsh) d D hd (by omega) (by omega)
    have qr := rstmtI_fn (shs_cn hsh) d D hd (by omega)
    obtain ⟨s', e'⟩ : ∃ s' : St, s' = s ++ [.row y.row 42 0 0] := ⟨_, rfl⟩
    have k8 : s'[s.length]? = some (.row y.row 42 0 0) := by rw [e']; simp
    have k0 : s'[0]? = some (.row [SL p.dz p.dt (p.decls.map Dp.row), SL p.tz p.tt (p.thrs.map Tp.row)] 26 0 0) := by rw [e']; exact get_app_some hs
    rw [hyr] at qf qr hys e' k8
    simp only [go_sem, hs, nt, List.getElem?_map, hx, hrow, nb, lt_t h3, hy, hyr]
    rw [← e']
    refine w_drw (by kernel_rfl) ?_
    simp only [go_sem, k8, ec]
    refine wgx_fn qf (by simp only [go_sem]) ?_
    simp only [go_sem, k8, ec]
    refine wgx_fn qr (by simp only [go_sem]) ?_
    simp only [go_sem, bne, beq_self_eq_true, Bool.not_true, inc64 (show k < 9223372036854775807 by omega)]
    exact W_keep (jh (k + 1, s') (by simp only; omega) ⟨h3, k0⟩) rfl
  · simp only [go_sem, hs, nt, lt_f h']
    refine w_drw (by kernel_rfl) ?_
    simp only [go_sem, hs]
    refine wgx_fn q2 (by simp only [go_sem]) ?_
    simp only [go_sem, hs]
    refine wgx_fn q3 (by simp only [go_sem]) ?_
    simp only [go_sem, beq_self_eq_true]
    exact fr_eq rfl rfl
end Go.Proofs.YtlehfgdhebapeaaDoor.KM
