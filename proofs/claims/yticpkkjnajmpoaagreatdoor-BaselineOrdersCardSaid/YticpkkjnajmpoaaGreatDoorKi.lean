/- Cuts of strings and slices, comparisons, bytes to strings. -/
import Derived.Test.YticpkkjnajmpoaaGreatDoorKh
set_option linter.all false
namespace Go.Proofs.YticpkkjnajmpoaaGreatDoor.KM
open Go Go.RowKit
variable {P : Program} {G : List (Nat × List V)} {N : Nat} {γ : Gh} {σ σ1 : St} {w : World} {e : Env} {a : Act} {o : Oper} {v : V}

def okSo (G : List (Nat × List V)) : Option S → Option Operand → Bool
  | none, none => true
  | some s, some x => okS G s x
  | _, _ => false
/-- a bound of a cut -/
theorem bound_run {s : Option S} {x : Option Operand} {d n y : Nat} {c : BoundsCode} (hx : okSo G s x = true) (hE : RepE γ w e a.tmps) (hI : Inv G N γ σ w) (hb : boundV (s.map (src e)) d = some n) :
    (s = none ∧ x = none ∧ n = d) ∨ ∃ sx xx, s = some sx ∧ x = some xx ∧ (n ≤ y → (Instr.sliceBound (a.eval xx) y c).run P w = .ok n w) := by
  cases s with
  | none =>
    cases x with
    | none => simp [boundV] at hb; exact .inl ⟨rfl, rfl, hb.symm⟩
    | some x => simp [okSo] at hx
  | some s =>
    cases x with
    | none => simp [okSo] at hx
    | some x =>
      refine .inr ⟨s, x, rfl, rfl, fun hy => ?_⟩
      have hr := okS_rep hx hE hI
      simp only [Option.map_some, boundV] at hb
      split at hb
      · rename_i e1; cases e1
      · rename_i k m e1
        injection e1 with e1
        rw [e1] at hr
        have hu := repC_int (repV_cell rfl hr)
        split at hb
        · rename_i h0
          cases hb
          have hle : m ≤ (y : Int) := by omega
          simp [Instr.sliceBound, hu, asIntOf, h0, hle]
        · cases hb
      · cases hb

theorem mk_extract (l : List UInt8) (a b : Nat) : (⟨l.toArray⟩ : ByteArray).extract a b = ⟨((l.take b).drop a).toArray⟩ := by
  apply WideShapes.bytes_inj
  rw [Lib.extract_data]
  simp [List.drop_take]

theorem sim_slcs {t : TypeId} {x : Operand} {lo hi : Option Operand} {s : S} {slo shi : Option S} (ho : o.op = .slice t x lo hi none) (ht : P.underlying t = some .string) (h1 : okSo G slo lo = true) (h2 : okSo G shi hi = true)
    (hx : RepV γ w (src e s) (a.eval x)) (hE : RepE γ w e a.tmps) (hI : Inv G N γ σ w)
    (h : evalOp (.slcs s slo shi) e σ = some (v, σ1)) : OpOk P G N γ σ w ((execOp a.eval o).run P w) v σ1 := by
  simp only [evalOp, Option.map_eq_some_iff] at h
  obtain ⟨v', h, hv⟩ := h
  cases hv
  unfold slcS at h
  split at h
  · rename_i l e1
    rw [e1] at hx
    obtain ⟨hu, hl⟩ := repC_str (repV_cell rfl hx)
    simp only [Option.bind_eq_some_iff] at h
    obtain ⟨p, hp, q, hq, h⟩ := h
    split at h
    · rename_i hle
      cases h
      have hlen : ((l.take q).drop p).length ≤ maxLen := by simp; omega
      refine ok_pure hI (u := .string ⟨((l.take q).drop p).toArray⟩) ?_ (str_rep hlen)
      have hsb : (Instr.sliceBounds false l.length l.length (lo.map a.eval) (hi.map a.eval) none).run P w = .ok (p, q, l.length) w := by
        have b1 := bound_run (P := P) (y := l.length) (c := .sliceAlen) h2 hE hI hq
        have b2 := bound_run (P := P) (y := q) (c := .sliceB) h1 hE hI hp
        rcases b1 with ⟨rfl, rfl, rfl⟩ | ⟨sx, xx, rfl, rfl, b1⟩ <;> rcases b2 with ⟨rfl, rfl, rfl⟩ | ⟨sy, xy, rfl, rfl, b2⟩
        · simp [Instr.sliceBounds]
        · simp [Instr.sliceBounds, b2 hle.1]
        · simp [Instr.sliceBounds, b1 hle.2]
        · simp [Instr.sliceBounds, b1 hle.2, b2 hle.1]
      simp [execOp, ho, hu, Instr.sliceAt, Instr.slice, run_underlying ht, mk_size, hsb, mk_extract]
    · cases h
  · cases h

theorem lst_cut {t' : Nat} {xs : List (List V)} {ad : Addr} {cap p q : Nat} (hR : RepR γ.κ w (.lst 0 xs) (.slice (some ad) xs.length cap)) (hp : p ≤ q) (hq : q ≤ xs.length) {c : Nat} (hc1 : q - p ≤ c) (hc2 : c ≤ maxLen) (ht1 : t' = 1 → c = q - p) {ad' : Addr}
    (had : p < q → ad.spot = none → ∀ m, (∀ i, i < xs.length → (xs.getD i []).length = m) → ad' = ⟨ad.block, ad.off + p * m, none⟩) :
    RepR γ.κ w (.lst t' ((xs.take q).drop p)) (.slice (some ad') (q - p) c) := by
  have hlen : ((xs.take q).drop p).length = q - p := by simp; omega
  cases hR with
  | @lst _ _ _ _ m row h1 h2 h3 h4 h5 h6 h7 =>
  have H4 := Lib.hid h4
  clear h4
  have hget : ∀ i, i < q - p → ((xs.take q).drop p).getD i [] = xs.getD (p + i) [] := fun i hi => by
    simp only [List.getD_eq_getElem?_getD, List.getElem?_drop, List.getElem?_take]
    rw [if_pos (by omega)]
  have had' : p < q → ad' = ⟨ad.block, ad.off + p * m, none⟩ := fun hpq => had hpq (H4.out (by omega)).1 m h5
  clear had
  have key := RepR.lst (κ := γ.κ) (w := w) (t := t') (xs := (xs.take q).drop p) (a := ad') (cap := c) (m := m) (fun i j => row (p + i) j) (fun h => by rw [hlen]; exact ht1 h) (by omega) hc2
    (fun hl => by
      have hpq : p < q := by omega
      obtain ⟨hs, k, hk, hle⟩ := H4.out (by omega)
      rw [had' hpq]
      refine ⟨rfl, k, hk, ?_⟩
      rw [hlen]
      have : p * m + (q - p) * m = q * m := by rw [← Nat.add_mul]; congr 1; omega
      have : q * m ≤ xs.length * m := Nat.mul_le_mul_right _ hq
      show ad.off + p * m + (q - p) * m ≤ k
      omega)
    (fun i hi => by rw [hget i (by omega)]; exact h5 (p + i) (by omega))
    (fun i j hi hj => by
      have hpq : p < q := by omega
      rw [had' hpq]
      have := h6 (p + i) j (by omega) hj
      rw [show ad.off + (p + i) * m + j = ad.off + p * m + i * m + j by rw [Nat.add_mul]; omega] at this
      exact this)
    (fun i j hi hj => by
      rw [hget i (by omega)]
      exact h7 (p + i) j (by omega) hj)
  rw [hlen] at key
  exact key

theorem sim_slc {t el : TypeId} {fi : TypeInfo} {x : Operand} {lo hi mx : Option Operand} {s : S} {slo shi smx : Option S} (ho : o.op = .slice t x lo hi mx) (ht : P.underlying t = some (.slice el)) (hfi : P.info? el = some fi) (h1 : okSo G slo lo = true) (h2 : okSo G shi hi = true) (h3 : okSo G smx mx = true) (h4 : smx.isSome = true → shi.isSome = true) (hsize : fi.size ≠ 0)
    (hx : RepV γ w (src e s) (a.eval x)) (hE : RepE γ w e a.tmps) (hI : Inv G N γ σ w)
    (h : evalOp (.slc fi.size s slo shi smx) e σ = some (v, σ1)) : OpOk P G N γ σ w ((execOp a.eval o).run P w) v σ1 := by
  simp only [evalOp, Option.map_eq_some_iff] at h
  obtain ⟨v', h, hv⟩ := h
  cases hv
  unfold slcV at h
  split at h
  · rename_i e1
    rw [e1] at hx
    have hu := repC_nils (repV_cell rfl hx)
    simp only [Option.bind_eq_some_iff] at h
    obtain ⟨p, hp, q, hq, c, hc, h⟩ := h
    split at h
    · rename_i hle
      obtain ⟨rfl, rfl, rfl⟩ := hle
      cases h
      refine ok_pure hI (u := .slice none 0 0) ?_ (repV_of (.row .nils))
      have hsb : (Instr.sliceBounds true 0 0 (lo.map a.eval) (hi.map a.eval) (mx.map a.eval)).run P w = .ok (0, 0, 0) w := by
        have b0 := bound_run (P := P) (y := 0) (c := .slice3Acap) h3 hE hI hc
        have b1 := bound_run (P := P) (y := 0) (c := .sliceAcap) h2 hE hI hq
        have b1' := bound_run (P := P) (y := 0) (c := .slice3B) h2 hE hI hq
        have b2 := bound_run (P := P) (y := 0) (c := .sliceB) h1 hE hI hp
        have b2' := bound_run (P := P) (y := 0) (c := .slice3C) h1 hE hI hp
        rcases b0 with ⟨rfl, rfl, _⟩ | ⟨sz, xz, rfl, rfl, b0⟩ <;> rcases b1 with ⟨rfl, rfl, _⟩ | ⟨sx, xx, rfl, rfl, b1⟩ <;> rcases b2 with ⟨rfl, rfl, _⟩ | ⟨sy, xy, rfl, rfl, b2⟩
        · simp [Instr.sliceBounds]
        · simp [Instr.sliceBounds, b2]
        · simp [Instr.sliceBounds, b1]
        · simp [Instr.sliceBounds, b1, b2]
        · simp at h4
        · simp at h4
        · rcases b1' with ⟨h, _⟩ | ⟨_, _, h, h', b1'⟩
          · cases h
          · cases h; cases h'
            simp [Instr.sliceBounds, b0, b1']
        · rcases b1' with ⟨h, _⟩ | ⟨_, _, h, h', b1'⟩
          · cases h
          · cases h; cases h'
            rcases b2' with ⟨h, _⟩ | ⟨_, _, h, h', b2'⟩
            · cases h
            · cases h; cases h'
              simp [Instr.sliceBounds, b0, b1', b2']
      simp [execOp, ho, hu, Instr.sliceAt, Instr.slice, run_underlying ht, hsb, sizeOf, typeInfo, hfi]
    · cases h
  · rename_i t' xs e1
    rw [e1] at hx
    have hxc := repV_cell rfl hx
    obtain ⟨ad, cap, hu, hR, hcap1⟩ := repC_lst hxc
    have hcl : xs.length ≤ cap ∧ cap ≤ maxLen := by cases hR with | lst row h1 h2 h3 => exact ⟨h2, h3⟩
    simp only [Option.bind_eq_some_iff] at h
    obtain ⟨p, hp, q, hq, c, hc, h⟩ := h
    split at h
    · rename_i hle
      obtain ⟨hpq, hqx, rfl, hall⟩ := hle
      cases h
      have hsb : ∃ m, (Instr.sliceBounds true xs.length cap (lo.map a.eval) (hi.map a.eval) (mx.map a.eval)).run P w = .ok (p, c, m) w ∧ c ≤ m ∧ m ≤ cap ∧ (smx.isSome = true → m = c) ∧ (smx.isSome = false → m = cap) := by
        have b0 := bound_run (P := P) (y := cap) (c := .slice3Acap) h3 hE hI hc
        have b1 := bound_run (P := P) (y := cap) (c := .sliceAcap) h2 hE hI hq
        have b1' := bound_run (P := P) (y := c) (c := .slice3B) h2 hE hI hq
        have b2 := bound_run (P := P) (y := c) (c := .sliceB) h1 hE hI hp
        have b2' := bound_run (P := P) (y := c) (c := .slice3C) h1 hE hI hp
        have hcc : c ≤ cap := by omega
        rcases b0 with ⟨rfl, rfl, _⟩ | ⟨sz, xz, rfl, rfl, b0⟩ <;> rcases b1 with ⟨rfl, rfl, hq'⟩ | ⟨sx, xx, rfl, rfl, b1⟩ <;> rcases b2 with ⟨rfl, rfl, hp'⟩ | ⟨sy, xy, rfl, rfl, b2⟩
        · subst hq' hp'; exact ⟨cap, by simp [Instr.sliceBounds], hcc, Nat.le_refl _, by simp, by simp⟩
        · subst hq'; exact ⟨cap, by simp [Instr.sliceBounds, b2 hpq], hcc, Nat.le_refl _, by simp, by simp⟩
        · subst hp'; exact ⟨cap, by simp [Instr.sliceBounds, b1 hcc], hcc, Nat.le_refl _, by simp, by simp⟩
        · exact ⟨cap, by simp [Instr.sliceBounds, b1 hcc, b2 hpq], hcc, Nat.le_refl _, by simp, by simp⟩
        · simp at h4
        · simp at h4
        · rcases b1' with ⟨h, _⟩ | ⟨_, _, h, h', b1'⟩
          · cases h
          · cases h; cases h'
            subst hp'
            exact ⟨c, by simp [Instr.sliceBounds, b0 hcc, b1'], Nat.le_refl _, hcc, by simp, by simp⟩
        · rcases b1' with ⟨h, _⟩ | ⟨_, _, h, h', b1'⟩
          · cases h
          · cases h; cases h'
            rcases b2' with ⟨h, _⟩ | ⟨_, _, h, h', b2'⟩
            · cases h
            · cases h; cases h'
              exact ⟨c, by simp [Instr.sliceBounds, b0 hcc, b1', b2' hpq], Nat.le_refl _, hcc, by simp, by simp⟩
      obtain ⟨m, hsb, hm1, hm2, hm3, hm4⟩ := hsb
      have hms : (smx.map (src e)).isSome = smx.isSome := by cases smx <;> rfl
      rw [hms]
      have hrun : (execOp a.eval o).run P w = .ok (.value (.slice (some (if m = p then ad else ad.add (p * fi.size))) (c - p) (m - p))) w := by
        by_cases hmp : m = p
        · simp [execOp, ho, hu, Instr.sliceAt, Instr.slice, run_underlying ht, hsb, sizeOf, typeInfo, hfi, hmp]
        · simp [execOp, ho, hu, Instr.sliceAt, Instr.slice, run_underlying ht, hsb, sizeOf, typeInfo, hfi, hmp]
      have had : p < c → ad.spot = none → ∀ m', (∀ i, i < xs.length → (xs.getD i []).length = m') → (if m = p then ad else ad.add (p * fi.size)) = ⟨ad.block, ad.off + p * m', none⟩ := fun hlt hsp m' hm' => by
        rw [if_neg (by omega)]
        obtain ⟨b, of, sp⟩ := ad
        simp at hsp
        subst hsp
        rw [add_none]
        rcases hall with rfl | hall
        · simp
        · have hp0 := hm' p (by omega)
          have := List.all_eq_true.1 hall (xs.getD p []) (by rw [List.getD_eq_getElem?_getD, List.getElem?_eq_getElem (by omega)]; exact List.getElem_mem _)
          have e3 := eq_of_beq this
          rw [← e3, hp0]
      refine ok_pure hI hrun (repV_of ?_)
      refine .row (lst_cut hR hpq hqx (by omega) (by omega) ?_ had)
      intro h1'
      split at h1'
      · rename_i hs
        rw [hm3 hs]
      · rename_i hs
        have hs' : smx.isSome = false := by simpa using hs
        have := hm4 hs'
        split at h1'
        · rename_i hs2
          have := hcap1 hs2.2
          omega
        · omega
    · cases h
  · rename_i i g off len m' own e1
    rw [e1] at hx
    have hxc := repV_cell rfl hx
    split at h
    · cases h
    · rename_i hmx
      simp only [Option.bind_eq_some_iff] at h
      obtain ⟨p, hp, q, hq, h⟩ := h
      split at h
      · rename_i hle
        obtain ⟨rfl, hpq, hq2⟩ := hle
        cases h
        obtain ⟨b', o', cap, blk, g', hu, hb, hgle, hcap, hmax, ho', hlive⟩ := repC_sl hxc
        obtain rfl : smx = none := by cases smx <;> simp_all
        obtain rfl : mx = none := by cases mx <;> simp_all [okSo]
        have hqc : q ≤ cap := by omega
        have hsb : (Instr.sliceBounds true len cap (lo.map a.eval) (hi.map a.eval) none).run P w = .ok (p, q, cap) w := by
          have b1 := bound_run (P := P) (y := cap) (c := .sliceAcap) h2 hE hI hq
          have b2 := bound_run (P := P) (y := q) (c := .sliceB) h1 hE hI hp
          rcases b1 with ⟨rfl, rfl, hq'⟩ | ⟨sx, xx, rfl, rfl, b1⟩ <;> rcases b2 with ⟨rfl, rfl, hp'⟩ | ⟨sy, xy, rfl, rfl, b2⟩
          · subst hq' hp'; simp [Instr.sliceBounds]
          · subst hq'; simp [Instr.sliceBounds, b2 hpq]
          · subst hp'; simp [Instr.sliceBounds, b1 hqc]
          · simp [Instr.sliceBounds, b1 hqc, b2 hpq]
        have hrun : (execOp a.eval o).run P w = .ok (.value (.slice (some (if cap = p then ⟨b', o', none⟩ else (⟨b', o', none⟩ : Addr).add (p * fi.size))) (q - p) (cap - p))) w := by
          by_cases hmp : cap = p
          · subst hmp
            rw [if_pos rfl]
            simp [execOp, ho, hu, Instr.sliceAt, Instr.slice, run_underlying ht, hsb, sizeOf, typeInfo, hfi]
          · simp [execOp, ho, hu, Instr.sliceAt, Instr.slice, run_underlying ht, hsb, sizeOf, typeInfo, hfi, hmp]
        refine ok_pure hI hrun (repV_of ?_)
        by_cases hmp : cap = p
        · rw [if_pos hmp]
          exact .sl hb hgle (by omega) (by omega) (fun h => by omega) (fun e => ⟨(hlive e).1, fun h => by rw [(hlive e).2 h]; congr 1; rw [← hmp]; simp⟩)
        · rw [if_neg hmp, add_none, ho' (by omega)]
          refine .sl hb hgle (by omega) (by omega) (fun _ => rfl) (fun e => ⟨(hlive e).1, fun h => ?_⟩)
          rw [(hlive e).2 h]
          congr 1
          rw [Nat.add_assoc, ← Nat.add_mul]
          congr 2
          omega
      · cases h
  · cases h

/-- an array's cells as a slice -/
theorem sim_slca {t el : TypeId} {fi : TypeInfo} {len : Nat} {x : Operand} {lo hi : Option Operand} {s : S} {slo shi : Option S} (ho : o.op = .slice t x lo hi none) (ht : P.underlying t = some (.array len el)) (hfi : P.info? el = some fi) (h1 : okSo G slo lo = true) (h2 : okSo G shi hi = true) (hlen : len ≤ maxLen)
    (hx : RepV γ w (src e s) (a.eval x)) (hE : RepE γ w e a.tmps) (hI : Inv G N γ σ w)
    (h : evalOp (.slca len fi.size s slo shi) e σ = some (v, σ1)) : OpOk P G N γ σ w ((execOp a.eval o).run P w) v σ1 := by
  simp only [evalOp] at h
  split at h
  · rename_i i g off e1
    rw [e1] at hx
    simp only [Option.bind_eq_some_iff] at h
    obtain ⟨p, hp, q, hq, h⟩ := h
    split at h
    · rename_i hle
      obtain ⟨hpq, hql⟩ := hle
      cases h
      obtain ⟨b', blk, g', hu, hb, hgle, hlive⟩ := repC_ptr (repV_cell rfl hx)
      have hsb : (Instr.sliceBounds false len len (lo.map a.eval) (hi.map a.eval) none).run P w = .ok (p, q, len) w := by
        have b1 := bound_run (P := P) (y := len) (c := .sliceAlen) h2 hE hI hq
        have b2 := bound_run (P := P) (y := q) (c := .sliceB) h1 hE hI hp
        rcases b1 with ⟨rfl, rfl, hq'⟩ | ⟨sx, xx, rfl, rfl, b1⟩ <;> rcases b2 with ⟨rfl, rfl, hp'⟩ | ⟨sy, xy, rfl, rfl, b2⟩
        · subst hq' hp'; simp [Instr.sliceBounds]
        · subst hq'; simp [Instr.sliceBounds, b2 hpq]
        · subst hp'; simp [Instr.sliceBounds, b1 hql]
        · simp [Instr.sliceBounds, b1 hql, b2 hpq]
      have hrun : (execOp a.eval o).run P w = .ok (.value (.slice (some (if len = p then ⟨b', off, none⟩ else (⟨b', off, none⟩ : Addr).add (p * fi.size))) (q - p) (len - p))) w := by
        by_cases hmp : len = p
        · subst hmp
          rw [if_pos rfl]
          simp [execOp, ho, hu, Instr.sliceAt, Instr.sureAddr, run_underlying ht, hsb, sizeOf, typeInfo, hfi]
        · simp [execOp, ho, hu, Instr.sliceAt, Instr.sureAddr, run_underlying ht, hsb, sizeOf, typeInfo, hfi, hmp]
      refine ok_pure hI hrun (repV_of ?_)
      by_cases hmp : len = p
      · rw [if_pos hmp]
        exact .sl hb hgle (by omega) (by omega) (fun h => by omega) (fun e => ⟨hlive e, fun h => absurd h (by simp)⟩)
      · rw [if_neg hmp, add_none]
        exact .sl hb hgle (by omega) (by omega) (fun _ => rfl) (fun e => ⟨hlive e, fun h => absurd h (by simp)⟩)
    · cases h
  · cases h

/-- a literal of bytes is marked as one -/
theorem sim_cvl {t el : TypeId} {x : Operand} {s : S} (ho : o.op = .convert t t x) (ht : P.underlying t = some (.slice el)) (he : P.underlying el = some (.int .u8)) (hx : RepV γ w (src e s) (a.eval x)) (hI : Inv G N γ σ w)
    (h : evalOp (.cvl s) e σ = some (v, σ1)) : OpOk P G N γ σ w ((execOp a.eval o).run P w) v σ1 := by
  simp only [evalOp] at h
  split at h
  · rename_i i g off len m own e1
    rw [e1] at hx
    split at h
    · rename_i cs ee g' z hcs
      split at h
      · rename_i hc
        obtain ⟨rfl, rfl⟩ := hc
        cases h
        have hxc := repV_cell rfl hx
        obtain ⟨blk, cap, o', hb, hu, ho', hsz, hcap, hmax⟩ := live_sl (o' := 0) hI hxc (by simp [eqLive, hcs])
        obtain ⟨_, hk0, _, us, lo, hi, g1, ⟨g5, g6⟩, g2, g3⟩ := hI.obj i _ _ hcs hb
        have hlt : blk < w.heap.size := (Array.getElem?_eq_some_iff.1 g1).1
        have hh0 : ∃ lo' hi', (w.freeze ⟨blk, us.size, none⟩ 1).heap[blk]? = some (.cells us ee (lo', hi')) ∧ lo' ≤ hi' ∧ us.size ≤ lo' := by
          have hh : (w.freeze ⟨blk, us.size, none⟩ 1).heap[blk]? = some (.cells us ee (if lo == hi then (us.size, us.size + 1) else (min lo us.size, max hi (us.size + 1)))) := by
            simp [World.freeze, Array.getElem?_modify, g1]
          by_cases hlh : lo = hi
          · rw [if_pos (by simp [hlh])] at hh
            exact ⟨_, _, hh, by omega, by omega⟩
          · rw [if_neg (by simp [hlh])] at hh
            exact ⟨_, _, hh, by omega, by omega⟩
        obtain ⟨lo', hi', hh, hl1, hl2⟩ := hh0
        have hoth : ∀ b, b ≠ blk → (w.freeze ⟨blk, us.size, none⟩ 1).heap[b]? = w.heap[b]? := fun b hne => by
          simp [World.freeze, Array.getElem?_modify, hne, Ne.symm hne]
        have hsize : (w.freeze ⟨blk, us.size, none⟩ 1).heap.size = w.heap.size := by simp [World.freeze]
        have hr : (execOp a.eval o).run P w = .ok (.value (a.eval x)) (w.freeze ⟨blk, us.size, none⟩ 1) := by
          simp [execOp, ho, hu, convert, run_underlying ht, run_underlying he, markStringish, World.shape?, g1]
        have hT := hI.turn (w' := w.freeze ⟨blk, us.size, none⟩ 1) (p' := (blk, g)) (ob' := .row cs ee g 0) (κ' := γ.κ) hb (by omega) (fun b _ hne => hoth b hne) (fun _ _ _ => rfl) (fun b k hk => by rw [hsize]; exact hI.dom b k hk) (fun z hz => ⟨z, hz, Nat.le_refl _, fun o _ => by simp [World.cell?, hh, g1]⟩) (Nat.le_refl _) (fun _ => ⟨rfl, by simp [sizeOf?, hh, g1]⟩) (.inl rfl) (fun hx => by
          exact ⟨rfl, hk0, Nat.zero_le _, us, lo', hi', hh, ⟨hl1, .inr hl2⟩, g2, fun j hj => (g3 j hj).ext hx⟩)
        rw [set_same hb, set_same hcs] at hT
        refine ⟨_, _, _, .inl hr, repV_of (hxc.ext hT.2), hT.1, hT.2, ⟨rfl, rfl, rfl, by rw [hsize]; exact Nat.le_refl _, fun k hk => hoth k (by have := hI.low i _ hb; omega)⟩, fun _ _ => rfl⟩
      · cases h
    · cases h
  · cases h
end Go.Proofs.YticpkkjnajmpoaaGreatDoor.KM
