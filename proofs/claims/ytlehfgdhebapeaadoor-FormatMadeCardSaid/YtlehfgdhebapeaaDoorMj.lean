/- Walks: which programs are shaped: programs. -/
import Derived.Test.YtlehfgdhebapeaaDoorMi
set_option linter.all false
namespace Go.Proofs.YtlehfgdhebapeaaDoor.KM
open Go
set_option maxHeartbeats 1000000 in
theorem shg_fn (p : Gp) (hb : bulkRow p.row ≤ 1000000000) : Fn TT PT 10 [.agg p.row] (.bool (shG p)) := by
  obtain ⟨dz, dt, decls, tz, tt, thrs⟩ := p
  rw [bulkg] at hb
  simp only at hb
  have b1 := bulk_len (f := Dp.row) (fun x => by rw [bulkd]; omega) decls
  have b2 := bulk_len (f := Tp.row) (fun x => by rw [bulkt]; omega) thrs
  have n1 : (decls.map Dp.row).length = decls.length := List.length_map ..
  have n2 : (thrs.map Tp.row).length = thrs.length := List.length_map ..
  obtain ⟨R, hR⟩ : ∃ b, b = shG ⟨dz, dt, decls, tz, tt, thrs⟩ := ⟨_, rfl⟩
  rw [← hR]
  unfold shG at hR
  simp only at hR
  unfold Gp.row
  simp only
  refine Fn_go T10 rfl ?_
  simp only [go_sem]
  refine loop_w (α := Nat) (fun i => decls.length - i) (fun i => [(1, .ptr 0 0 0), (3, .int .i64 (i : Int))]) (fun _ => [.row [SL dz dt (decls.map Dp.row), SL tz tt (thrs.map Tp.row)] 26 0 0]) (fun i => i ≤ decls.length ∧ decls.all shD = (decls.drop i).all shD) ?_ 0 ⟨Nat.zero_le _, rfl⟩
  rintro i ⟨hi, hc⟩ ih
  refine w_rep (by delta lp10_0; exact rfl) ?_
  rcases Nat.lt_or_ge i decls.length with h' | h'
  · obtain ⟨x, hx, hd, hm⟩ := at_some h'
    rw [hd, List.all_cons] at hc
    have hf := shd_fn x
    have hrow : x.row = [.int .i64 x.kind, .int .i64 x.line, .str x.nm, .int .i64 x.size, .int .i64 x.init, .str x.on] := rfl
    rw [hrow] at hf
    cases hx1 : shD x
    · rw [hx1] at hf hc
      obtain rfl : R = false := by rw [hR, hc]; rfl
      simp only [go_sem, n1, lt_t h', List.getElem?_map, hx, hrow]
      refine wx_fn hf (by simp only [go_sem]) ?_
      simp only [go_sem, Bool.not_false]
      exact fr_eq rfl rfl
    · rw [hx1] at hf hc
      simp only [go_sem, n1, lt_t h', List.getElem?_map, hx, hrow]
      refine wx_fn hf (by simp only [go_sem]) ?_
      simp only [go_sem, Bool.not_true, inc64 (show i < 9223372036854775807 by omega)]
      exact W_keep (ih (i + 1) (by omega) ⟨h', by simpa using hc⟩) rfl
  · rw [List.drop_eq_nil_of_le h'] at hc
    rw [hc] at hR
    clear ih hc hi
    simp only [go_sem, n1, lt_f h']
    refine loop_w (α := Nat × St) (fun a => thrs.length - a.1) (fun a => [(1, .ptr 0 0 0), (4, .int .i64 (a.1 : Int))]) (fun a => a.2) (fun a => a.1 ≤ thrs.length ∧ a.2[0]? = some (.row [SL dz dt (decls.map Dp.row), SL tz tt (thrs.map Tp.row)] 26 0 0) ∧ thrs.all shT = (thrs.drop a.1).all shT) ?_ (0, _) ⟨Nat.zero_le _, rfl, rfl⟩
    rintro ⟨i, s⟩ ⟨hi, hs, hc⟩ ih
    simp only at hi hc hs ih
    refine w_rep (by delta lp10_2; exact rfl) ?_
    rcases Nat.lt_or_ge i thrs.length with h' | h'
    · obtain ⟨x, hx, hd, hm⟩ := at_some h'
      rw [hd, List.all_cons] at hc
      have hbt := bulk_mem (f := Tp.row) hm
      obtain ⟨nm, line, lz, lt, locals, bz, bt, body⟩ := x
      rw [bulkt] at hbt
      simp only at hbt
      have b3 := bulk_len (f := fun s => [V.str s]) (fun x => by simp only [bulkRow, V.bulk]; omega) locals
      have b4 := bulk_len (f := Sp.row) (fun x => by rw [bulks]; omega) body
      have n3 : (locals.map fun s => [V.str s]).length = locals.length := List.length_map ..
      have hRf : shT ⟨nm, line, lz, lt, locals, bz, bt, body⟩ = false → R = false := fun h => by rw [hR, hc, h]; rfl
      have hsh : shT ⟨nm, line, lz, lt, locals, bz, bt, body⟩ = (locals.all isNameE && (isNameE nm && shSs body)) := rfl
      have hrow : Tp.row ⟨nm, line, lz, lt, locals, bz, bt, body⟩ = [.str nm, .int .i64 line, SL lz lt (locals.map fun x => [V.str x]), SL bz bt (body.map Sp.row)] := rfl
      obtain ⟨s', hs'⟩ : ∃ s', s' = s ++ [Ob.row [.str nm, .int .i64 line, SL lz lt (locals.map fun x => [V.str x]), SL bz bt (body.map Sp.row)] 35 0 0] := ⟨_, rfl⟩
      have k1 : s'[s.length]? = some (.row [.str nm, .int .i64 line, SL lz lt (locals.map fun x => [V.str x]), SL bz bt (body.map Sp.row)] 35 0 0) := by rw [hs', List.getElem?_append_right (Nat.le_refl _), Nat.sub_self]; rfl
      have k0 : s'[0]? = some (.row [SL dz dt (decls.map Dp.row), SL tz tt (thrs.map Tp.row)] 26 0 0) := by rw [hs']; exact get_app_some hs
      simp only [go_sem, hs, n2, lt_t h', List.getElem?_map, hx, hrow]
      rw [← hs']
      refine loop_w (α := Nat) (fun k => locals.length - k) (fun k => [(1, .ptr 0 0 0), (4, .int .i64 (i : Int)), (5, .ptr s.length 0 0), (6, .int .i64 (k : Int))]) (fun _ => s') (fun k => k ≤ locals.length ∧ locals.all isNameE = (locals.drop k).all isNameE) ?_ 0 ⟨Nat.zero_le _, rfl⟩
      rintro k ⟨hk, hl⟩ jh
      refine w_rep (by delta lp10_1; exact rfl) ?_
      rcases Nat.lt_or_ge k locals.length with g' | g'
      · obtain ⟨y, hy, hyd, hym⟩ := at_some g'
        rw [hyd, List.all_cons] at hl
        have hf := rname_fn y
        cases hy1 : isNameE y
        · rw [hy1] at hf hl
          obtain rfl := hRf (by rw [hsh, hl]; rfl)
          simp only [go_sem, k1, n3, lt_t g', List.getElem?_map, hy]
          refine wx_fn hf (by simp only [go_sem]) ?_
          simp only [go_sem, Bool.not_false]
          exact fr_eq rfl rfl
        · rw [hy1] at hf hl
          simp only [go_sem, k1, n3, lt_t g', List.getElem?_map, hy]
          refine wx_fn hf (by simp only [go_sem]) ?_
          simp only [go_sem, Bool.not_true, inc64 (show k < 9223372036854775807 by omega)]
          exact W_keep (jh (k + 1) (by omega) ⟨g', by simpa using hl⟩) rfl
      · rw [List.drop_eq_nil_of_le g'] at hl
        clear jh
        have hf1 := rname_fn nm
        have hf2 := shss_step bz bt body (by omega) fun y hy => shs_fn 1000000000 y (by have := bulk_mem (f := Sp.row) hy; omega) (Nat.le_refl _)
        cases hn1 : isNameE nm
        · rw [hn1] at hf1
          obtain rfl := hRf (by rw [hsh, hn1]; simp)
          simp only [go_sem, k1, n3, lt_f g']
          refine wx_fn hf1 (by simp only [go_sem]) ?_
          simp only [go_sem, Bool.not_false]
          exact fr_eq rfl rfl
        · rw [hn1] at hf1
          cases hb1 : shSs body
          · rw [hb1] at hf2
            obtain rfl := hRf (by rw [hsh, hb1]; simp)
            simp only [go_sem, k1, n3, lt_f g']
            refine wx_fn hf1 (by simp only [go_sem]) ?_
            simp only [go_sem, Bool.not_true, k1]
            refine wx_fn hf2 (by simp only [go_sem]) ?_
            simp only [go_sem, Bool.not_false]
            exact fr_eq rfl rfl
          · rw [hb1] at hf2
            simp only [go_sem, k1, n3, lt_f g']
            refine wx_fn hf1 (by simp only [go_sem]) ?_
            simp only [go_sem, Bool.not_true, k1]
            refine wx_fn hf2 (by simp only [go_sem]) ?_
            simp only [go_sem, Bool.not_true, inc64 (show i < 9223372036854775807 by omega)]
            refine W_keep (ih (i + 1, s') (by simp; omega) ⟨by simp; omega, k0, ?_⟩) rfl
            simp only
            rw [hc, hsh, hl, hn1, hb1]
            simp
    · rw [List.drop_eq_nil_of_le h'] at hc
      rw [hc] at hR
      by_cases hn : thrs.length = 0
      · obtain rfl : R = false := by
          rw [hR, List.length_eq_zero_iff.1 hn]
          rfl
        have f1 : ((0 : Int) < (thrs.length : Int)) = False := eq_false (by omega)
        simp only [go_sem, hs, n2, lt_f h', gt_iff_lt, f1]
        exact fr_eq rfl rfl
      · obtain rfl : R = true := by
          rw [hR]
          cases thrs with
          | nil => exact absurd rfl hn
          | cons a l => rfl
        have f1 : ((0 : Int) < (thrs.length : Int)) = True := eq_true (by omega)
        simp only [go_sem, hs, n2, lt_f h', gt_iff_lt, f1]
        exact fr_eq rfl rfl
end Go.Proofs.YtlehfgdhebapeaaDoor.KM
