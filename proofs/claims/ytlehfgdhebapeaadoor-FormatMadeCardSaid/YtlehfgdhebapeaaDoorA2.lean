/- THE PLAIN MACHINE, joined texts: Kj Kk Kl Km Kn Ko Kp Kq. -/
import Derived.Test.YtlehfgdhebapeaaDoorA1
import Derived.Lib.AppendStr
import Derived.Laws.BytesArg
import Derived.Laws.BytesString
import Derived.Lib.ConvBytes
import Derived.Laws.StructEq
import Derived.Orders
set_option linter.all false
/- append (second form). -/
namespace Go.Proofs.YtlehfgdhebapeaaDoor.KM
open Go Go.RowKit
variable {P : Program} {G : List (Nat × List V)} {N : Nat} {γ : Gh} {σ σ1 : St} {w : World} {e : Env} {a : Act} {o : Oper} {v : V}

/-- cells in a list of values -/
def CellsIn (γ : Gh) (w : World) (cs : List V) (us : List Value) : Prop := cs.length = us.length ∧ ∀ j, j < cs.length → RepC γ w (cs.getD j .und) (us.getD j undef)
theorem CellsIn.ext {γ γ' : Gh} {w w' : World} {cs : List V} {us : List Value} (hx : Ext γ w γ' w') (h : CellsIn γ w cs us) : CellsIn γ' w' cs us := ⟨h.1, fun j hj => (h.2 j hj).ext hx⟩
theorem CellsIn.app {cs ds : List V} {us vs : List Value} (h : CellsIn γ w cs us) (g : CellsIn γ w ds vs) : CellsIn γ w (cs ++ ds) (us ++ vs) := by
  refine ⟨by simp [h.1, g.1], fun j hj => ?_⟩
  simp only [List.getD_eq_getElem?_getD]
  by_cases hl : j < cs.length
  · rw [List.getElem?_append_left hl, List.getElem?_append_left (by rw [← h.1]; exact hl)]
    simpa [List.getD_eq_getElem?_getD] using h.2 j hl
  · rw [List.getElem?_append_right (by omega), List.getElem?_append_right (by rw [← h.1]; omega), ← h.1]
    have := g.2 (j - cs.length) (by simp at hj; omega)
    simpa [List.getD_eq_getElem?_getD] using this
theorem CellsIn.one {cs : List V} {us : List Value} (h : CellsIn γ w cs us) : ∀ u ∈ us, u.oneCell' = true := by
  intro u hu
  obtain ⟨j, hj, rfl⟩ := List.getElem_of_mem hu
  have := (repC_none (h.2 j (by rw [h.1]; exact hj))).2
  simpa [List.getD_eq_getElem?_getD, hj] using this

theorem flat_len {m : Nat} : ∀ {xs : List (List V)}, (∀ i, i < xs.length → (xs.getD i []).length = m) → xs.flatten.length = xs.length * m
  | [], _ => by simp
  | x :: xs, h => by
    have h0 : x.length = m := by simpa using h 0 (by simp)
    rw [List.flatten_cons, List.length_append, flat_len (m := m) (xs := xs) (fun i hi => by simpa using h (i + 1) (by simpa using hi)), h0, List.length_cons, Nat.succ_mul]
    omega
theorem flat_get {m : Nat} : ∀ {xs : List (List V)}, (∀ i, i < xs.length → (xs.getD i []).length = m) → ∀ i j, i < xs.length → j < m → xs.flatten.getD (i * m + j) .und = (xs.getD i []).getD j .und
  | [], _, i, j, hi, _ => by simp at hi
  | x :: xs, h, i, j, hi, hj => by
    have h0 : x.length = m := by simpa using h 0 (by simp)
    have hr : ∀ i, i < xs.length → (xs.getD i []).length = m := fun i hi => by simpa using h (i + 1) (by simpa using hi)
    cases i with
    | zero =>
      simp only [List.getD_eq_getElem?_getD, List.flatten_cons, Nat.zero_mul, Nat.zero_add]
      rw [List.getElem?_append_left (by omega)]
      rfl
    | succ i =>
      have ih := flat_get hr i j (by simpa using hi) hj
      simp only [List.getD_eq_getElem?_getD, List.flatten_cons] at ih ⊢
      rw [List.getElem?_append_right (by rw [h0, Nat.succ_mul]; omega), show (i + 1) * m + j - x.length = i * m + j by rw [h0, Nat.succ_mul]; omega, ih]
      simp
theorem chop_flat (m : Nat) : ∀ (n : Nat) (cs : List V), n * m ≤ cs.length → (chop m n cs).flatten = cs.take (n * m)
  | 0, cs, _ => by simp [chop]
  | n + 1, cs, h => by
    rw [Nat.succ_mul] at h
    rw [chop, List.flatten_cons, chop_flat m n _ (by simp; omega), Nat.succ_mul, Nat.add_comm (n * m) m, List.take_add]
/-- a settled slice's cells, as a list -/
theorem cells_of_lst {xs : List (List V)} {ad : Addr} {cap m : Nat} (hm : 0 < m) (hw : ∀ i, i < xs.length → (xs.getD i []).length = m) (h : RepR γ.κ w (.lst 0 xs) (.slice (some ad) xs.length cap)) :
    ∃ us : List Value, CellsIn γ w xs.flatten us ∧ ∀ j u, us[j]? = some u → w.cell? (ad.add j) = some u := by
  cases h with
  | @lst _ _ _ _ m' row h1 h2 h3 h4 h5 h6 h7 =>
  have H4 := Lib.hid h4
  clear h4
  have hmm : 0 < xs.length → m' = m := fun hl => by rw [← h5 0 hl, hw 0 hl]
  refine ⟨(List.range (xs.length * m)).map fun q => row (q / m) (q % m), ⟨by rw [flat_len hw]; simp, fun j hj => ?_⟩, fun j u hj => ?_⟩
  · rw [flat_len hw] at hj
    have hl : 0 < xs.length := by
      rcases Nat.eq_zero_or_pos xs.length with h | h
      · rw [h] at hj; simp at hj
      · exact h
    obtain rfl := hmm hl
    have hd : j / m' < xs.length := Nat.div_lt_of_lt_mul (by rw [Nat.mul_comm]; exact hj)
    have hr : j % m' < m' := Nat.mod_lt _ hm
    have hdm : j / m' * m' + j % m' = j := by rw [Nat.mul_comm]; exact Nat.div_add_mod j m'
    have e0 := flat_get hw (j / m') (j % m') hd hr
    rw [hdm] at e0
    rw [e0]
    have e1 : ((List.range (xs.length * m')).map fun q => row (q / m') (q % m')).getD j undef = row (j / m') (j % m') := by
      simp [List.getD_eq_getElem?_getD, hj]
    rw [e1]
    exact .row (h7 _ _ hd hr)
  · have hj' : j < xs.length * m := by
      have := (List.getElem?_eq_some_iff.1 hj).1
      simpa using this
    have hl : 0 < xs.length := by
      rcases Nat.eq_zero_or_pos xs.length with h | h
      · rw [h] at hj'; simp at hj'
      · exact h
    obtain rfl := hmm hl
    have hs := (H4.out hl).1
    have hd : j / m' < xs.length := Nat.div_lt_of_lt_mul (by rw [Nat.mul_comm]; exact hj')
    have hr : j % m' < m' := Nat.mod_lt _ hm
    have hc := h6 (j / m') (j % m') hd hr
    have hdm : j / m' * m' + j % m' = j := by rw [Nat.mul_comm]; exact Nat.div_add_mod j m'
    rw [Nat.add_assoc, hdm] at hc
    simp [hj'] at hj
    subst hj
    obtain ⟨b, of, sp⟩ := ad
    simp at hs
    subst hs
    rw [add_none]
    exact hc

theorem below_drew_alloc {o : Obj} (h : N ≤ w.heap.size) : Below N w (w.drew.alloc o) := ((Below.refl N w).drew).alloc h o
theorem getD_arr {us : List Value} {pad : Array Value} {j : Nat} (h : j < us.length) : (us.toArray ++ pad).getD j undef = us.getD j undef := by
  rw [Array.getD_eq_getD_getElem?, Array.getElem?_append_left (by simpa using h), List.getElem?_toArray, List.getD_eq_getElem?_getD]

/-- a new object behind a draw -/
theorem grown_ok {cs : List V} {us : List Value} {pad : Array Value} {el : TypeId} {n cap m : Nat} {r : Result Next} (hI : Inv G N γ σ w) (hc : CellsIn γ w cs us) (hn : n ≤ cap) (hcm : cap ≤ maxLen) (hsz : (us.toArray ++ pad).size = cap * m)
    (h : r = .ok (.value (.slice (some ⟨w.heap.size, 0, none⟩) n cap)) (w.drew.alloc (.cells (us.toArray ++ pad) el))) : OpOk P G N γ σ w r (.sl σ.length 0 0 n m true) (σ ++ [.row cs el 0 0]) := by
  obtain ⟨d1, d2⟩ := hI.drew
  obtain ⟨i1, i2⟩ := d1.newRow (us.toArray ++ pad) el cs (by rw [hc.1]; simp) (fun j hj => by
    rw [getD_arr (by rw [← hc.1]; exact hj)]
    exact (hc.2 j hj).ext d2)
  refine ⟨_, _, _, .inl h, repV_of (sl_rep ?_ ?_ hn hcm), i1, d2.trans i2, below_drew_alloc hI.base, fun b hb => kset_other _ _ (by have := hI.base; show b ≠ w.heap.size; omega)⟩
  · show (γ.O ++ [(w.heap.size, 0)])[σ.length]? = _
    rw [← hI.len]; simp
  · have := size_new w.drew (us.toArray ++ pad) el (0, 0)
    rw [show w.drew.heap.size = w.heap.size from rfl] at this
    rw [this, hsz]

/-- THE THREE WAYS OF AN APPEND -/
theorem app_ok {x : V} {ux : Value} {ys : List (List V)} {news : List Value} {m bytes : Nat} {el : TypeId} {r : Result Next} (hI : Inv G N γ σ w) (hx : RepV γ w x ux) (hy : CellsIn γ w ys.flatten news)
    (rzero : ys.length = 0 → ∀ (b : Option Addr) (n c : Nat), n ≤ c → ux = .slice b n c → r = .ok (.value (.slice b n c)) w)
    (rnil : 0 < ys.length → ys.length * bytes ≤ 140737488355328 → ux = .slice none 0 0 → ∃ cap pad, r = .ok (.value (.slice (some ⟨w.heap.size, 0, none⟩) ys.length cap)) (w.drew.alloc (.cells (news.toArray ++ pad) el)) ∧ ys.length ≤ cap ∧ cap ≤ maxLen ∧ (news.toArray ++ pad).size = cap * m)
    (rroom : ∀ (g n cap : Nat) (cur : Array Value) (e' : TypeId) (fz : Nat × Nat), w.heap[g]? = some (.cells cur e' fz) → (fz.2 ≤ n * m ∨ cur.size ≤ fz.1) → 0 < ys.length → n + ys.length ≤ cap → cur.size = cap * m → ux = .slice (some ⟨g, 0, none⟩) n cap →
      r = .ok (.value (.slice (some ⟨g, 0, none⟩) (n + ys.length) cap)) (w.setRow g (cur.toList.take (n * m) ++ news ++ cur.toList.drop (n * m + news.length)).toArray))
    (rgrow : ∀ (b : Addr) (n cap : Nat) (olds : List Value), olds.length = n * m → (∀ j u, olds[j]? = some u → w.cell? (b.add j) = some u) → 0 < ys.length → cap < n + ys.length → (n + ys.length) * bytes ≤ 140737488355328 → n + ys.length ≤ maxLen → ux = .slice (some b) n cap →
      ∃ cap' pad, r = .ok (.value (.slice (some ⟨w.heap.size, 0, none⟩) (n + ys.length) cap')) (w.drew.alloc (.cells (olds.toArray ++ news.toArray ++ pad) el)) ∧ n + ys.length ≤ cap' ∧ cap' ≤ maxLen ∧ (olds.toArray ++ news.toArray ++ pad).size = cap' * m)
    (hb63 : ∀ k, k * bytes ≤ 140737488355328 → k ≤ maxLen)
    (h : appR bytes (m, el) σ x ys = some (v, σ1)) : OpOk P G N γ σ w r v σ1 := by
  have hempty : ys.isEmpty = true ↔ ys.length = 0 := by cases ys <;> simp
  unfold appR at h
  split at h
  · rename_i hall0
    obtain ⟨hall, hm⟩ := hall0
    have hm : 0 < m := hm
    have hwy : ∀ i, i < ys.length → (ys.getD i []).length = m := fun i hi => by
      have := List.all_eq_true.1 hall (ys.getD i []) (by rw [List.getD_eq_getElem?_getD, List.getElem?_eq_getElem hi]; exact List.getElem_mem hi)
      exact eq_of_beq this
    have hnl : news.length = ys.length * m := by rw [← hy.1, flat_len hwy]
    split at h
    · have hu := repC_nils (repV_cell rfl hx)
      split at h
      · rename_i hbytes
        split at h
        · rename_i hy0
          cases h
          exact ok_pure hI (rzero (hempty.1 hy0) none 0 0 (Nat.le_refl _) hu) (repV_of (.row .nils))
        · rename_i hy0
          cases h
          have hpos : 0 < ys.length := Nat.pos_of_ne_zero fun h => hy0 (hempty.2 h)
          obtain ⟨cap, pad, hr, hc1, hc2, hc3⟩ := rnil hpos hbytes hu
          exact grown_ok hI hy hc1 hc2 hc3 hr
      · cases h
    · rename_i t xs
      have hxc := repV_cell rfl hx
      obtain ⟨ad, cap, hu, hR, hcap1⟩ := repC_lst hxc
      split at h
      · rename_i hbytes
        split at h
        · rename_i hy0
          cases h
          exact ok_pure hI (rzero (hempty.1 hy0) _ _ _ (by cases hR with | lst row h1 h2 h3 => exact h2) hu) (by rw [← hu]; exact hx)
        · rename_i hy0
          have hpos : 0 < ys.length := Nat.pos_of_ne_zero fun h => hy0 (hempty.2 h)
          split at h
          · rename_i ht
            cases h
            have hw : ∀ i, i < xs.length → (xs.getD i []).length = m := fun i hi => by
              have := List.all_eq_true.1 ht.2 (xs.getD i []) (by rw [List.getD_eq_getElem?_getD, List.getElem?_eq_getElem hi]; exact List.getElem_mem hi)
              exact eq_of_beq this
            obtain ⟨olds, ho1, ho2⟩ := cells_of_lst hm hw hR
            have hc0 := hcap1 ht.1
            obtain ⟨cap', pad, hr, hc1, hc2, hc3⟩ := rgrow ad xs.length cap olds (by rw [← ho1.1, flat_len hw]) ho2 hpos (by omega) hbytes (hb63 _ hbytes) hu
            rw [show olds.toArray ++ news.toArray = (olds ++ news).toArray by simp] at hr hc3
            exact grown_ok hI (ho1.app hy) hc1 hc2 hc3 hr
          · cases h
      · cases h
    · rename_i i g off len m' own
      have hxc := repV_cell rfl hx
      split at h
      · rename_i hbm
        obtain ⟨hbytes, hmm⟩ := hbm
        obtain rfl : m = m' := Eq.symm hmm
        split at h
        · rename_i cs ee g' z hcs
          split at h
          · rename_i hg
            subst hg
            obtain ⟨blk, cap, o', hb, hu, ho', hsz, hcap, hmax⟩ := live_sl (o' := 0) hI hxc (by simp [eqLive, hcs])
            obtain ⟨_, hkz, hzl, us, lo, hi, g1, ⟨_, gfr⟩, g2, g3⟩ := hI.obj i _ _ hcs hb
            split at h
            · rename_i hy0
              cases h
              exact ok_pure hI (rzero (hempty.1 hy0) _ _ _ hcap hu) (by rw [← hu]; exact hx)
            · rename_i hy0
              have hpos : 0 < ys.length := Nat.pos_of_ne_zero fun h => hy0 (hempty.2 h)
              split at h
              · rename_i hc
                obtain ⟨hown, rfl, hel, hzlen⟩ := hc
                obtain rfl : el = ee := Eq.symm hel
                have hus : us.size = cap * m := by have := hsz hown; simp [sizeOf?, g1] at this; exact this
                have g1 : w.heap[blk]? = some (.cells us el (lo, hi)) := g1
                have hadd : (len + ys.length) * m = len * m + ys.length * m := Nat.add_mul _ _ _
                have hfr : hi ≤ len * m ∨ us.size ≤ lo := by
                  rcases gfr with h | h
                  · exact .inl (by omega)
                  · exact .inr h
                have gcell : ∀ j, j < cs.length → RepC γ w (cs.getD j .und) (us.toList.getD j undef) := fun j hj => by
                  have := g3 j hj
                  simpa [Array.getD_eq_getD_getElem?, List.getD_eq_getElem?_getD] using this
                split at h
                · -- within what it has
                  rename_i hin
                  cases h
                  have hroom : len + ys.length ≤ cap := Nat.le_of_mul_le_mul_right (by omega) hm
                  have hu' : ux = .slice (some ⟨blk, 0, none⟩) len cap := by rw [hu, ho' (by omega)]
                  have hr := rroom blk len cap us el (lo, hi) g1 hfr hpos hroom hus hu'
                  have hsz3 : ((us.toList.take (len * m) ++ news ++ us.toList.drop (len * m + news.length)).toArray).size = us.size := by simp; omega
                  have hcl : (cs.take (len * m) ++ ys.flatten ++ cs.drop ((len + ys.length) * m)).length = cs.length := by
                    rw [List.length_append, List.length_append, hy.1, hnl]; simp; omega
                  obtain ⟨i1, i2⟩ := hI.write (us' := (us.toList.take (len * m) ++ news ++ us.toList.drop (len * m + news.length)).toArray) (cs' := cs.take (len * m) ++ ys.flatten ++ cs.drop ((len + ys.length) * m)) (g' := g) hb hcs g1 ⟨by assumption, gfr⟩ (Nat.le_refl _) (by omega) hsz3 (by omega) (fun q hq => by
                    rw [List.getElem?_toArray, seg_get _ _ _ _ (by simp; omega), if_pos (by omega), Array.getElem?_toList]) (fun j hj => by
                    rw [hcl] at hj
                    rw [Array.getD_eq_getD_getElem?, List.getElem?_toArray, List.getD_eq_getElem?_getD, hadd, show ys.length * m = ys.flatten.length by rw [flat_len hwy], seg_get _ _ _ _ (by rw [hy.1, hnl]; omega), seg_get _ _ _ _ (by simp; omega), hy.1]
                    split
                    · have := gcell j hj
                      simpa [List.getD_eq_getElem?_getD] using this
                    · split
                      · have := hy.2 (j - len * m) (by rw [hy.1]; omega)
                        simpa [List.getD_eq_getElem?_getD] using this
                      · have := gcell j hj
                        simpa [List.getD_eq_getElem?_getD] using this)
                  rw [show (blk, g).1 = blk from rfl, set_same hb] at i1 i2
                  refine ⟨_, _, _, .inl hr, repV_of (.sl hb (Nat.le_refl _) hroom hmax (fun _ => rfl) (fun _ => ⟨rfl, fun _ => ?_⟩)), i1, i2, below_setRow _ (hI.low _ _ hb), fun _ _ => rfl⟩
                  rw [size_setRow w blk g1 hsz3, hsz hown]
                · split at h
                  · rename_i hnin hend
                    cases h
                    have hcl : (cs ++ ys.flatten).length = (len + ys.length) * m := by rw [List.length_append, hy.1, hnl, hend, hadd]
                    have holds : us.toList.take (len * m) = us.toList.take cs.length := by rw [hend]
                    have hcin : CellsIn γ w cs (us.toList.take (len * m)) := ⟨by simp; omega, fun j hj => by
                      have := gcell j hj
                      simpa [List.getD_eq_getElem?_getD, List.getElem?_take, show j < len * m by omega] using this⟩
                    by_cases hroom : len + ys.length ≤ cap
                    · -- grown in its place
                      have hu' : ux = .slice (some ⟨blk, 0, none⟩) len cap := by rw [hu, ho' (by omega)]
                      have hr := rroom blk len cap us el (lo, hi) g1 hfr hpos hroom hus hu'
                      have hmul : (len + ys.length) * m ≤ cap * m := Nat.mul_le_mul_right _ hroom
                      have hsz3 : ((us.toList.take (len * m) ++ news ++ us.toList.drop (len * m + news.length)).toArray).size = us.size := by simp; omega
                      obtain ⟨i1, i2⟩ := hI.write (us' := (us.toList.take (len * m) ++ news ++ us.toList.drop (len * m + news.length)).toArray) (cs' := cs ++ ys.flatten) (g' := g + 1) hb hcs g1 ⟨by assumption, gfr⟩ (by omega) (by omega) hsz3 (by omega) (fun q hq => by
                        rw [List.getElem?_toArray, seg_get _ _ _ _ (by simp; omega), if_pos (by omega), Array.getElem?_toList]) (fun j hj => by
                        have := (hcin.app hy).2 j hj
                        have hj2 : j < (us.toList.take (len * m) ++ news).length := by rw [← (hcin.app hy).1]; exact hj
                        rw [Array.getD_eq_getD_getElem?, List.getElem?_toArray, List.getElem?_append_left hj2]
                        simpa [List.getD_eq_getElem?_getD] using this)
                      refine ⟨_, _, _, .inl hr, repV_of (.sl (blk := blk) (g' := g + 1) ?_ (Nat.le_refl _) hroom hmax (fun _ => rfl) (fun _ => ⟨rfl, fun _ => ?_⟩)), i1, i2, below_setRow _ (hI.low _ _ hb), fun _ _ => rfl⟩
                      · show (γ.O.set i (blk, g + 1))[i]? = _
                        rw [List.getElem?_set_self (List.getElem?_eq_some_iff.1 hb).1]
                      · rw [size_setRow w blk g1 hsz3, hsz hown]
                    · -- moved
                      have hcell : ∀ j u, (us.toList.take (len * m))[j]? = some u → w.cell? ((⟨blk, o', none⟩ : Addr).add j) = some u := fun j u hj => by
                        have hjl : j < len * m := by have := (List.getElem?_eq_some_iff.1 hj).1; simp at this; omega
                        have hlen0 : 0 < len := by
                          rcases Nat.eq_zero_or_pos len with h | h
                          · rw [h] at hjl; simp at hjl
                          · exact h
                        rw [ho' (by omega), add_none]
                        rw [List.getElem?_take, if_pos hjl, Array.getElem?_toList] at hj
                        simpa [World.cell?, g1] using hj
                      obtain ⟨cap', pad, hr, hc1, hc2, hc3⟩ := rgrow ⟨blk, o', none⟩ len cap (us.toList.take (len * m)) (by simp; omega) hcell hpos (by omega) hbytes (hb63 _ hbytes) hu
                      rw [show (us.toList.take (len * m)).toArray ++ news.toArray = (us.toList.take (len * m) ++ news).toArray from (List.append_toArray _ _)] at hr hc3
                      obtain ⟨d1, d2⟩ := hI.drew
                      have hcc := hcin.app hy
                      obtain ⟨i1, i2⟩ := d1.moved (us' := (us.toList.take (len * m) ++ news).toArray ++ pad) (cs' := cs ++ ys.flatten) hb hcs (by omega) (by rw [hcc.1]; simp only [Array.size_append, List.size_toArray]; omega) (fun j hj => by
                        rw [getD_arr (by rw [← hcc.1]; exact hj)]
                        exact (hcc.2 j hj).ext d2)
                      refine ⟨_, _, _, .inl hr, repV_of (.sl (blk := w.heap.size) (g' := g + 1) ?_ (Nat.le_refl _) hc1 hc2 (fun _ => rfl) (fun _ => ⟨rfl, fun _ => ?_⟩)), i1, d2.trans i2, below_drew_alloc hI.base, fun b hb => kset_other _ _ (by have := hI.base; show b ≠ w.heap.size; omega)⟩
                      · show (γ.O.set i (w.heap.size, g + 1))[i]? = _
                        rw [List.getElem?_set_self (List.getElem?_eq_some_iff.1 hb).1]
                      · have := size_new w.drew ((us.toList.take (len * m) ++ news).toArray ++ pad) el (0, 0)
                        rw [show w.drew.heap.size = w.heap.size from rfl] at this
                        rw [this, hc3, Nat.zero_add]
                  · cases h
              · cases h
          · cases h
        · cases h
      · cases h
    · cases h
  · cases h
end Go.Proofs.YtlehfgdhebapeaaDoor.KM
/- append at its operation; comparisons; bytes to strings. -/
namespace Go.Proofs.YtlehfgdhebapeaaDoor.KM
open Go Go.RowKit
variable {P : Program} {G : List (Nat × List V)} {N : Nat} {γ : Gh} {σ σ1 : St} {w : World} {e : Env} {a : Act} {o : Oper} {v : V}

theorem run_append_roomF (t ty e : TypeId) (i : TypeInfo) (ht : P.underlying t = some (.slice e)) (hi : P.info? e = some i)
    (g sLen sCap : Nat) (cur : Array Value) (e' : TypeId) (fz : Nat × Nat) (hg : w.heap[g]? = some (.cells cur e' fz)) (hfz : fz.2 ≤ sLen * i.size ∨ cur.size ≤ fz.1)
    (b : Addr) (m c : Nat) (news : List Value) (hl : news.length = m * i.size) (hnews : ∀ j u, news[j]? = some u → w.cell? (b.add j) = some u) (h1 : ∀ u ∈ news, u.oneCell' = true)
    (hroom : sLen + m ≤ sCap) (hfit : sLen * i.size + news.length ≤ cur.size) :
    (Builtin.append_ #[t, t] ty #[.slice (some ⟨g, 0, none⟩) sLen sCap, .slice (some b) m c]).run P w =
      .ok (.slice (some ⟨g, 0, none⟩) (sLen + m) sCap) (w.setRow g (cur.toList.take (sLen * i.size) ++ news ++ cur.toList.drop (sLen * i.size + news.length)).toArray) := by
  have hf := run_firstCells_some (P := P) w i.size m b m c news hl hnews
  have hst := run_storeCells_free P g (sLen * i.size) e' fz news 0 cur w hg (by simpa using hfz) (by simpa using hfit) h1
  simp only [Nat.add_zero] at hst
  simp [Builtin.append_, run_underlying ht, sizeOf, typeInfo, hi, Builtin.lenOf, hroom, hf, Addr.add_lit, hst]

theorem appR_width {bytes : Nat} {m : Nat × Nat} {x : V} {ys : List (List V)} (h : appR bytes m σ x ys = some (v, σ1)) : ∀ i, i < ys.length → (ys.getD i []).length = m.1 := by
  unfold appR at h
  split at h
  · rename_i hall
    intro i hi
    have := List.all_eq_true.1 hall.1 (ys.getD i []) (by rw [List.getD_eq_getElem?_getD, List.getElem?_eq_getElem hi]; exact List.getElem_mem hi)
    exact eq_of_beq this
  · cases h

theorem sim_app {t el : TypeId} {fi : TypeInfo} {z : Value} {x y : Operand} {s1 s2 : S} (ho : o.op = .call { callee := .builtin .append, args := #[x, y], argTypes := #[t, t] }) (ht : P.underlying t = some (.slice el)) (hfi : P.info? el = some fi) (hz : fi.zero = some z) (hzs : z.cells.size = fi.size) (hsz : 0 < fi.size) (hby : 0 < fi.bytes)
    (hx : RepV γ w (src e s1) (a.eval x)) (hy : RepV γ w (src e s2) (a.eval y)) (hI : Inv G N γ σ w)
    (h : evalOp (.app fi.bytes (fi.size, el) s1 s2) e σ = some (v, σ1)) : OpOk P G N γ σ w ((execOp a.eval o).run P w) v σ1 := by
  simp only [evalOp, Option.bind_eq_some_iff] at h
  obtain ⟨ys, hys, h⟩ := h
  have hwid := appR_width h
  have hb63 : ∀ k, k * fi.bytes ≤ 140737488355328 → k ≤ maxLen := fun k hk => by
    have : k ≤ k * fi.bytes := Nat.le_mul_of_pos_right _ hby
    unfold maxLen; omega
  have lift : ∀ {u : Value} {w' : World}, (Builtin.append_ #[t, t] o.type #[a.eval x, a.eval y]).run P w = .ok u w' → (execOp a.eval o).run P w = .ok (.value u) w' := fun hr => by
    simp only [execOp, ho, resolve, invoke, builtin, Sem.run_bind, Sem.run_pure, Result.andThen_ok, List.map_toArray, List.map_cons, List.map_nil, hr]
  have hsrc : (ys = [] ∧ a.eval y = .slice none 0 0) ∨ ∃ ad c news, a.eval y = .slice (some ad) ys.length c ∧ CellsIn γ w ys.flatten news ∧ ∀ j u, news[j]? = some u → w.cell? (ad.add j) = some u := by
    unfold srcRows at hys
    split at hys
    · rename_i e2
      rw [e2] at hy
      cases hys
      exact .inl ⟨rfl, repC_nils (repV_cell rfl hy)⟩
    · rename_i t' ys' e2
      rw [e2] at hy
      cases hys
      obtain ⟨ad, c, hu, hR, _⟩ := repC_lst (repV_cell rfl hy)
      obtain ⟨news, h1, h2⟩ := cells_of_lst hsz hwid hR
      exact .inr ⟨ad, c, news, hu, h1, h2⟩
    · rename_i i g off len m' own e2
      rw [e2] at hy
      split at hys
      · rename_i cs ee g' z hcs
        split at hys
        · rename_i hc
          obtain ⟨rfl, rfl, hle⟩ := hc
          cases hys
          obtain ⟨blk, cap, o', hb, hu, ho', _, hcap, _⟩ := live_sl (o' := 0) hI (repV_cell rfl hy) (by simp [eqLive, hcs])
          obtain ⟨_, _, _, us, lo, hi, g1, _, g2, g3⟩ := hI.obj i _ _ hcs hb
          have g1 : w.heap[blk]? = some (.cells us ee (lo, hi)) := g1
          refine .inr ⟨⟨blk, o', none⟩, cap, (us.toList.drop off).take (len * fi.size), by rw [hu, chop_len], ⟨?_, fun j hj => ?_⟩, fun j u hj => ?_⟩
          · rw [chop_flat _ _ _ (by simp; omega)]; simp; omega
          · rw [chop_flat _ _ _ (by simp; omega)] at hj ⊢
            have hj' : j < len * fi.size ∧ off + j < cs.length := by simp at hj; omega
            have := g3 (off + j) hj'.2
            simpa [List.getD_eq_getElem?_getD, List.getElem?_take, List.getElem?_drop, hj'.1, Array.getD_eq_getD_getElem?] using this
          · have hjl : j < len * fi.size := by have := (List.getElem?_eq_some_iff.1 hj).1; simp at this; omega
            have hl0 : 0 < len := by
              rcases Nat.eq_zero_or_pos len with h | h
              · rw [h] at hjl; simp at hjl
              · exact h
            rw [ho' (by omega), add_none]
            rw [List.getElem?_take, if_pos hjl, List.getElem?_drop, Array.getElem?_toList] at hj
            simpa [World.cell?, g1] using hj
        · cases hys
      · cases hys
    · cases hys
  rcases hsrc with ⟨rfl, hu⟩ | ⟨ad, c, news, hu, hn1, hn2⟩
  · refine app_ok (news := []) (el := el) (bytes := fi.bytes) hI hx ⟨by simp, fun i hi => absurd hi (by simp)⟩ (fun _ b n c hnc hx' => lift ?_) (fun h => absurd h (by simp)) (fun _ _ _ _ _ _ _ _ h => absurd h (by simp)) (fun _ _ _ _ _ _ h => absurd h (by simp)) hb63 h
    · rw [hx', hu]
      cases b <;> simp [Builtin.append_, run_underlying ht, sizeOf, typeInfo, hfi, Builtin.lenOf, Builtin.firstCells, storeCells, hnc]
  · have hnl : news.length = ys.length * fi.size := by rw [← hn1.1, flat_len hwid]
    have hone := hn1.one
    refine app_ok (news := news) (el := el) (bytes := fi.bytes) hI hx hn1 (fun h0 b n c' hnc hx' => lift ?_) (fun hp hb hx' => ?_) (fun g n cap cur e' fz hg hfz hp hroom hcs hx' => lift ?_) (fun b n cap olds ho1 ho2 _ hc hb hm hx' => ?_) hb63 h
    · have hn0 : news = [] := List.eq_nil_of_length_eq_zero (by rw [hnl, h0]; simp)
      rw [hx', hu, h0]
      cases b <;> simp [Builtin.append_, run_underlying ht, sizeOf, typeInfo, hfi, Builtin.lenOf, Builtin.firstCells, loadCells, loadCellsFrom, storeCells, hnc]
    · have hr := run_append_nil (P := P) w t o.type el fi z ht hfi hz ad ys.length c news hnl hn2 hp (by have := hb63 _ hb; unfold maxLen at this; omega) (by omega)
      refine ⟨_, _, lift (by rw [hx', hu]; exact hr), grownCap_ge _ _ _ _, grownCap_le_maxLen _ _ _ _ (hb63 _ hb), ?_⟩
      have := grownCap_ge w ys.length 0 el
      simp only [Array.size_append, List.size_toArray, size_zeroCells, hzs, hnl, ← Nat.add_mul]
      congr 1
      omega
    · rw [hx', hu]
      refine run_append_roomF (P := P) t o.type el fi ht hfi g n cap cur e' fz hg hfz ad ys.length c news hnl hn2 hone hroom ?_
      rw [hnl, hcs, ← Nat.add_mul]
      exact Nat.mul_le_mul_right _ hroom
    · have hr := run_append_grow (P := P) w t o.type el fi z ht hfi hz b n cap olds ho1 ho2 ad ys.length c news hnl hn2 hc (by unfold maxLen at hm; omega) (growslice_fits hc hb)
      refine ⟨_, _, lift (by rw [hx', hu]; exact hr), grownCap_ge _ _ _ _, grownCap_le_maxLen _ _ _ _ hm, ?_⟩
      have := grownCap_ge w (n + ys.length) cap el
      simp only [Array.size_append, List.size_toArray, size_zeroCells, hzs, hnl, ho1, ← Nat.add_mul]
      congr 1
      omega

theorem run_append_room_strF (t u ty e : TypeId) (i : TypeInfo) (ht : P.underlying t = some (.slice e)) (hu : P.underlying u = some .string) (hi : P.info? e = some i) (hs1 : i.size = 1)
    (g sLen sCap : Nat) (cur : Array Value) (e' : TypeId) (fz : Nat × Nat) (hg : w.heap[g]? = some (.cells cur e' fz)) (hfz : fz.2 ≤ sLen ∨ cur.size ≤ fz.1) (s : ByteArray)
    (hroom : sLen + s.size ≤ sCap) (hfit : sLen + s.size ≤ cur.size) :
    (Builtin.append_ #[t, u] ty #[.slice (some ⟨g, 0, none⟩) sLen sCap, .string s]).run P w =
      .ok (.slice (some ⟨g, 0, none⟩) (sLen + s.size) sCap) (w.setRow g (cur.toList.take sLen ++ Lib.strCells s ++ cur.toList.drop (sLen + s.size)).toArray) := by
  have hf := Lib.run_firstCells_string (P := P) w 1 s
  have hst := run_storeCells_free P g sLen e' fz (Lib.strCells s) 0 cur w hg (by simpa using hfz) (by simpa [Lib.strCells_length] using hfit) (Lib.strCells_oneCell s)
  simp only [Nat.add_zero, Lib.strCells_length] at hst
  simp [Builtin.append_, run_underlying ht, run_underlying hu, sizeOf, typeInfo, hi, hs1, Builtin.lenOf, hroom, hf, Addr.add_lit, hst]

theorem byteRows_len (l : List UInt8) : (byteRows l).length = l.length := by simp [byteRows]
theorem byteRows_get (l : List UInt8) (i : Nat) (h : i < l.length) : (byteRows l).getD i [] = [V.int .u8 (l[i].toNat : Int)] := by
  simp [byteRows, List.getD_eq_getElem?_getD, h]
theorem byteRows_flat (l : List UInt8) : (byteRows l).flatten = l.map fun c => V.int .u8 (c.toNat : Int) := by
  induction l with
  | nil => rfl
  | cons c l ih => simp [byteRows] at ih ⊢; exact ih
theorem cells_bytes (l : List UInt8) : CellsIn γ w (byteRows l).flatten (Lib.strCells ⟨l.toArray⟩) := by
  rw [byteRows_flat]
  refine ⟨by simp [Lib.strCells], fun j hj => ?_⟩
  have hj' : j < l.length := by simpa using hj
  have e1 : (l.map fun c => V.int .u8 (c.toNat : Int)).getD j .und = .int .u8 (l[j].toNat : Int) := by simp [List.getD_eq_getElem?_getD, hj']
  have e2 : (Lib.strCells ⟨l.toArray⟩).getD j undef = .int .u8 (l[j].toNat : Int) := by simp [Lib.strCells, List.getD_eq_getElem?_getD, hj']
  rw [e1, e2]
  exact .row .int

theorem sim_apps {t u el : TypeId} {fi : TypeInfo} {z : Value} {x y : Operand} {s1 s2 : S} (ho : o.op = .call { callee := .builtin .append, args := #[x, y], argTypes := #[t, u] }) (ht : P.underlying t = some (.slice el)) (hu : P.underlying u = some .string) (hfi : P.info? el = some fi) (hz : fi.zero = some z) (hzs : z.cells.size = 1) (hsz : fi.size = 1) (hby : fi.bytes = 1)
    (hx : RepV γ w (src e s1) (a.eval x)) (hy : RepV γ w (src e s2) (a.eval y)) (hI : Inv G N γ σ w)
    (h : evalOp (.apps el s1 s2) e σ = some (v, σ1)) : OpOk P G N γ σ w ((execOp a.eval o).run P w) v σ1 := by
  simp only [evalOp] at h
  split at h
  · rename_i l e2
    rw [e2] at hy
    obtain ⟨hv, hl⟩ := repC_str (repV_cell rfl hy)
    have hb63 : ∀ k, k * 1 ≤ 140737488355328 → k ≤ maxLen := fun k hk => by unfold maxLen; omega
    have lift : ∀ {u' : Value} {w' : World}, (Builtin.append_ #[t, u] o.type #[a.eval x, a.eval y]).run P w = .ok u' w' → (execOp a.eval o).run P w = .ok (.value u') w' := fun hr => by
      simp only [execOp, ho, resolve, invoke, builtin, Sem.run_bind, Sem.run_pure, Result.andThen_ok, List.map_toArray, List.map_cons, List.map_nil, hr]
    have hms : (⟨l.toArray⟩ : ByteArray).size = l.length := mk_size l
    have hsc : (Lib.strCells ⟨l.toArray⟩).length = l.length := by rw [Lib.strCells_length, mk_size]
    refine app_ok (news := Lib.strCells ⟨l.toArray⟩) (el := el) (bytes := 1) (m := 1) hI hx (cells_bytes l) (fun h0 b n c' hnc hx' => lift ?_) (fun hp hb hx' => ?_) (fun g n cap cur e' fz hg hfz hp hroom hcs hx' => lift ?_) (fun b n cap olds ho1 ho2 _ hc hb hm hx' => ?_) hb63 h
    · rw [byteRows_len] at h0
      have hl0 : l = [] := List.eq_nil_of_length_eq_zero h0
      subst hl0
      rw [hx', hv]
      cases b <;> simp [Builtin.append_, run_underlying ht, run_underlying hu, sizeOf, typeInfo, hfi, Builtin.lenOf, Builtin.firstCells, storeCells, mk_size, hnc]
    · rw [byteRows_len] at hp hb ⊢
      have hr := run_append_nil_string (P := P) w t u o.type el fi z ht hu hfi hz ⟨l.toArray⟩ (by omega) (by rw [hms]; omega) (by rw [hby, hms]; omega)
      rw [hms] at hr
      have hdat : (Array.map (fun b : UInt8 => Value.int IntKind.u8 (b.toNat : Int)) (⟨l.toArray⟩ : ByteArray).data) = (Lib.strCells ⟨l.toArray⟩).toArray := by simp [Lib.strCells]
      rw [hdat] at hr
      refine ⟨_, _, lift (by rw [hx', hv]; exact hr), grownCap_ge _ _ _ _, grownCap_le_maxLen _ _ _ _ (hb63 _ hb), ?_⟩
      have := grownCap_ge w l.length 0 el
      simp only [Array.size_append, List.size_toArray, size_zeroCells, hzs, hsc]
      omega
    · rw [byteRows_len] at hp hroom ⊢
      have hr := run_append_room_strF (P := P) (w := w) t u o.type el fi ht hu hfi hsz g n cap cur e' fz hg (by simpa using hfz) ⟨l.toArray⟩ (by rw [hms]; omega) (by rw [hms]; omega)
      rw [hx', hv, hsc, Nat.mul_one, hr, hms]
    · rw [byteRows_len] at hc hb hm ⊢
      have hr := Lib.run_append_grow_string (P := P) w t u o.type el fi z ht hu hfi hz b n cap olds (by rw [hsz]; exact ho1) ho2 ⟨l.toArray⟩ (by rw [hms]; exact hc) (by rw [hms]; unfold maxLen at hm; omega) (by rw [hms, hby]; exact growslice_fits hc hb)
      rw [hms] at hr
      refine ⟨_, _, lift (by rw [hx', hv]; exact hr), grownCap_ge _ _ _ _, grownCap_le_maxLen _ _ _ _ hm, ?_⟩
      have := grownCap_ge w (n + l.length) cap el
      simp only [Array.size_append, List.size_toArray, size_zeroCells, hzs, hsc, ho1]
      omega
  · cases h

/-- a part of a struct or an array -/
theorem part_run {t : TypeId} {d : TypeDesc} {fi : TypeInfo} {n off : Nat} {one : Bool} {cs : List V} {us : List Value} {v : V} (ht : P.underlying t = some d) (hd : aggB d = !one) (hfi : P.info? t = some fi) (hn : fi.size = n)
    (hl : cs.length = us.length) (hj : ∀ j, j < cs.length → RepC γ w (cs.getD j .und) (us.getD j undef)) (hle : off + n ≤ cs.length) (h : mkOne one ((cs.drop off).take n) = some v) :
    ∃ u, (part t us.toArray off).run P w = .ok u w ∧ RepV γ w v u := by
  have hlen : ((cs.drop off).take n).length = n := by simp; omega
  have hr : ∀ j, j < n → RepC γ w (((cs.drop off).take n).getD j .und) (us.getD (off + j) undef) := fun j hjn => by
    have e1 : ((cs.drop off).take n).getD j .und = cs.getD (off + j) .und := by
      simp only [List.getD_eq_getElem?_getD, List.getElem?_take, List.getElem?_drop]
      rw [if_pos hjn]
    rw [e1]
    exact hj _ (by omega)
  obtain ⟨m1, m2⟩ := mkOne_rep (f := fun j => us.getD (off + j) undef) h hlen hr
  have hag := run_isAgg (P := P) (w := w) ht
  rw [hd] at hag
  cases one with
  | true =>
    obtain ⟨h1, h2⟩ := m1 rfl
    have hlt : off < us.length := by omega
    refine ⟨us.getD off undef, ?_, repV_of h2⟩
    simp [part, hag, List.getElem?_eq_getElem hlt, List.getD_eq_getElem?_getD]
  | false =>
    refine ⟨_, ?_, .one (m2 rfl)⟩
    have e2 : us.toArray.extract off (off + n) = ((List.range n).map fun j => us.getD (off + j) undef).toArray := by
      apply Array.ext
      · simp; omega
      · intro i h1 h2
        simp at h1 h2
        simp [List.getD_eq_getElem?_getD, show off + i < us.length by omega]
    generalize us.toArray = arr at e2 ⊢
    simp [part, hag, sizeOf, typeInfo, hfi, hn, e2]

theorem sim_fld {t : TypeId} {fs : Array Field} {f : Field} {d : TypeDesc} {fi : TypeInfo} {i off n : Nat} {one : Bool} {x : Operand} {s : S} (ho : o.op = .field t x i) (hs : P.underlying t = some (.struct fs)) (hf : fs[i]? = some f) (hoff : f.offset = off)
    (ht : P.underlying f.type = some d) (hd : aggB d = !one) (hfi : P.info? f.type = some fi) (hn : fi.size = n)
    (hx : RepV γ w (src e s) (a.eval x)) (hI : Inv G N γ σ w) (h : evalOp (.fld off n one s) e σ = some (v, σ1)) : OpOk P G N γ σ w ((execOp a.eval o).run P w) v σ1 := by
  simp only [evalOp] at h
  split at h
  · rename_i cs e1
    rw [e1] at hx
    obtain ⟨us, hu, hl, hj⟩ := repV_agg hx
    split at h
    · rename_i hle
      simp only [Option.map_eq_some_iff] at h
      obtain ⟨v', h, h2⟩ := h
      cases h2
      obtain ⟨u, hr, hv⟩ := part_run (P := P) ht hd hfi hn hl hj hle h
      refine ok_pure hI (u := u) ?_ hv
      simp [execOp, ho, hu, Instr.field, run_underlying hs, hf, asAgg, hoff, hr]
    · cases h
  · cases h

theorem sim_ida {t el : TypeId} {d : TypeDesc} {fi : TypeInfo} {len m : Nat} {one : Bool} {x y : Operand} {s1 s2 : S} (ho : o.op = .index t x y) (hs : P.underlying t = some (.array len el))
    (ht : P.underlying el = some d) (hd : aggB d = !one) (hfi : P.info? el = some fi) (hn : fi.size = m)
    (hx : RepV γ w (src e s1) (a.eval x)) (hy : RepV γ w (src e s2) (a.eval y)) (hI : Inv G N γ σ w) (h : evalOp (.ida len m one s1 s2) e σ = some (v, σ1)) : OpOk P G N γ σ w ((execOp a.eval o).run P w) v σ1 := by
  simp only [evalOp] at h
  split at h
  · rename_i k n e2
    rw [e2] at hy
    have hy' := repC_int (repV_cell rfl hy)
    split at h
    · rename_i hb
      split at h
      · rename_i cs e1
        rw [e1] at hx
        obtain ⟨us, hu, hl, hj⟩ := repV_agg hx
        split at h
        · rename_i hle
          simp only [Option.map_eq_some_iff] at h
          obtain ⟨v', h, h2⟩ := h
          cases h2
          obtain ⟨u, hr, hv⟩ := part_run (P := P) ht hd hfi hn hl hj hle h
          refine ok_pure hI (u := u) ?_ hv
          simp [execOp, ho, hu, hy', Instr.index, asIntOf, run_underlying hs, hb, sizeOf, typeInfo, hfi, hn, hr]
        · cases h
      · cases h
    · cases h
  · cases h
/-! strings of bytes -/
theorem sim_sap {t el : TypeId} {n : Nat} {x : Operand} {s : S} (ho : o.op = .sliceToArrayPointer t x) (ht : P.underlying t = some (.array n el)) (hx : RepV γ w (src e s) (a.eval x)) (hI : Inv G N γ σ w)
    (h : evalOp (.sap n s) e σ = some (v, σ1)) : OpOk P G N γ σ w ((execOp a.eval o).run P w) v σ1 := by
  simp only [evalOp, Option.map_eq_some_iff] at h
  obtain ⟨v', h, h2⟩ := h
  cases h2
  unfold sapV at h
  split at h
  · rename_i t' ys e1
    rw [e1] at hx
    split at h
    · rename_i hc
      obtain ⟨h0, hn, hw⟩ := hc
      cases h
      obtain ⟨ad, c, hu, hR, _⟩ := repC_lst (repV_cell rfl hx)
      have hwid : ∀ i, i < ys.length → (ys.getD i []).length = 1 := fun i hi => by
        have := List.all_eq_true.1 hw (ys.getD i []) (by rw [List.getD_eq_getElem?_getD, List.getElem?_eq_getElem hi]; exact List.getElem_mem hi)
        exact eq_of_beq this
      have hl : 0 < ys.length := by omega
      cases hR with
      | @lst _ _ _ _ m row h1 h2 h3 h4 h5 h6 h7 =>
      obtain rfl : m = 1 := by rw [← h5 0 hl, hwid 0 hl]
      obtain ⟨hs, k, hk, hle⟩ := h4 hl
      obtain ⟨b, o', sp⟩ := ad
      obtain rfl : sp = none := hs
      have hf : ys.flatten.length = ys.length := by rw [flat_len hwid]; omega
      refine ok_pure hI (u := .pointer (some ⟨b, o', none⟩)) ?_ (repV_of (RepC.imm (off := 0) (o := o') (fun j => row j 0) hk (by rw [hf]; simpa using hle) (fun j hj => ?_) (fun j hj => ?_)))
      · simp [execOp, ho, Instr.arrayAt, run_underlying ht, hu, show ¬ ys.length < n by omega]
      · have := h6 j 0 (by omega) (by omega)
        simpa using this
      · have := h7 j 0 (by omega) (by omega)
        rw [← flat_get hwid j 0 (by omega) (by omega)] at this
        simpa using this
    · cases h
  · cases h
theorem rowsByte_eq : ∀ {ys : List (List V)} {l : List UInt8}, rowsByte ys = some l → ys = byteRows l
  | [], l, h => by cases h; rfl
  | [.int .u8 n] :: r, l, h => by
    simp only [rowsByte] at h
    split at h
    · rename_i hn
      obtain ⟨l2, h2, rfl⟩ := Option.map_eq_some_iff.1 h
      rw [rowsByte_eq h2]
      have e : ((UInt8.ofNat n.toNat).toNat : Int) = n := by rw [UInt8.toNat_ofNat']; omega
      show _ = [V.int .u8 ((UInt8.ofNat n.toNat).toNat : Int)] :: byteRows l2
      rw [e]
    · cases h
/-- what the rows of a slice are in memory -/
theorem rows_src {m : Nat} {y : V} {u : Value} {ys : List (List V)} (hsz : 0 < m) (hy : RepV γ w y u) (hI : Inv G N γ σ w) (hys : srcRows σ m y = some ys) (hwid : ∀ i, i < ys.length → (ys.getD i []).length = m) :
    (ys = [] ∧ u = .slice none 0 0) ∨ ∃ ad c news, u = .slice (some ad) ys.length c ∧ ys.length ≤ maxLen ∧ CellsIn γ w ys.flatten news ∧ ∀ j u, news[j]? = some u → w.cell? (ad.add j) = some u := by
  unfold srcRows at hys
  split at hys
  · cases hys
    exact .inl ⟨rfl, repC_nils (repV_cell rfl hy)⟩
  · rename_i t' ys'
    cases hys
    obtain ⟨ad, c, hu, hR, _⟩ := repC_lst (repV_cell rfl hy)
    obtain ⟨news, h1, h2⟩ := cells_of_lst hsz hwid hR
    refine .inr ⟨ad, c, news, hu, ?_, h1, h2⟩
    cases hR with
    | lst row h1 h2 h3 h4 h5 h6 h7 => omega
  · rename_i i g off len m' own
    split at hys
    · rename_i cs ee g' z hcs
      split at hys
      · rename_i hc
        obtain ⟨rfl, rfl, hle⟩ := hc
        cases hys
        obtain ⟨blk, cap, o', hb, hu, ho', _, hcap, hcm⟩ := live_sl (o' := 0) hI (repV_cell rfl hy) (by simp [eqLive, hcs])
        obtain ⟨_, _, _, us, lo, hi, g1, _, g2, g3⟩ := hI.obj i _ _ hcs hb
        have g1 : w.heap[blk]? = some (.cells us ee (lo, hi)) := g1
        refine .inr ⟨⟨blk, o', none⟩, cap, (us.toList.drop off).take (len * m), by rw [hu, chop_len], by rw [chop_len]; omega, ⟨?_, fun j hj => ?_⟩, fun j u hj => ?_⟩
        · rw [chop_flat _ _ _ (by simp; omega)]; simp; omega
        · rw [chop_flat _ _ _ (by simp; omega)] at hj ⊢
          have hj' : j < len * m ∧ off + j < cs.length := by simp at hj; omega
          have := g3 (off + j) hj'.2
          simpa [List.getD_eq_getElem?_getD, List.getElem?_take, List.getElem?_drop, hj'.1, Array.getD_eq_getD_getElem?] using this
        · have hjl : j < len * m := by have := (List.getElem?_eq_some_iff.1 hj).1; simp at this; omega
          have hl0 : 0 < len := by
            rcases Nat.eq_zero_or_pos len with h | h
            · rw [h] at hjl; simp at hjl
            · exact h
          rw [ho' (by omega), add_none]
          rw [List.getElem?_take, if_pos hjl, List.getElem?_drop, Array.getElem?_toList] at hj
          simpa [World.cell?, g1] using hj
      · cases hys
    · cases hys
  · cases hys
theorem sim_bts {t1 t2 el : TypeId} {x : Operand} {s : S} (ho : o.op = .convert t1 t2 x) (h1 : P.underlying t1 = some (.slice el)) (he : P.underlying el = some (.int .u8)) (h2 : P.underlying t2 = some .string) (hx : RepV γ w (src e s) (a.eval x)) (hI : Inv G N γ σ w)
    (h : evalOp (.bts s) e σ = some (v, σ1)) : OpOk P G N γ σ w ((execOp a.eval o).run P w) v σ1 := by
  simp only [evalOp, Option.bind_eq_some_iff, Option.map_eq_some_iff] at h
  obtain ⟨ys, hys, l, hl, hv⟩ := h
  cases hv
  obtain rfl := rowsByte_eq hl
  have hn : (byteRows l).length = l.length := byteRows_len l
  have hwid : ∀ i, i < (byteRows l).length → ((byteRows l).getD i []).length = 1 := fun i hi => by rw [byteRows_get l i (by omega)]; rfl
  rcases rows_src (by omega) hx hI hys hwid with ⟨h0, hu⟩ | ⟨ad, c, news, hu, hm, ⟨n1, n2⟩, n3⟩
  · obtain rfl : l = [] := List.eq_nil_of_length_eq_zero (by rw [← hn, h0]; rfl)
    refine ok_pure hI (u := .string ⟨[].toArray⟩) ?_ (str_rep (Nat.zero_le _))
    have := run_convert_bytes_nil (P := P) w t1 el h1 he 0 0 t2 h2
    simp only [execOp, ho, hu, Sem.run_bind, this, Result.andThen_ok, Sem.run_pure]
    rfl
  · rw [byteRows_flat] at n1 n2
    have hnews : news = (l.map fun c => (c.toNat : Int)).map (Value.int .u8) := by
      apply List.ext_getElem?
      intro j
      rcases Nat.lt_or_ge j l.length with hj | hj
      · have hr := n2 j (by simpa using hj)
        have hjn : j < news.length := by rw [← n1]; simpa using hj
        simp only [List.getD_eq_getElem?_getD, List.getElem?_map, List.getElem?_eq_getElem hj, List.getElem?_eq_getElem hjn, Option.map_some, Option.getD_some] at hr ⊢
        rw [repC_int hr]
      · rw [List.getElem?_eq_none (by rw [← n1]; simpa using hj), List.getElem?_eq_none (by simpa using hj)]
    have hload : (loadCells ad l.length).run P w = .ok ((l.map fun c => (c.toNat : Int)).map (Value.int .u8)).toArray w := by
      have := run_loadCells_list (P := P) (w := w) ad news n3
      rw [hnews] at this
      simpa using this
    have hrun := run_bytesToString (P := P) w ad l.length c (l.map fun c => (c.toNat : Int)) hload
    rw [foldl_push_bytes] at hrun
    have hs : (⟨ByteArray.empty.data ++ ((l.map fun c => (c.toNat : Int)).map fun n => UInt8.ofNat n.toNat).toArray⟩ : ByteArray) = ⟨l.toArray⟩ := by
      apply ByteArray.ext
      apply Array.toList_inj.1
      rw [List.map_map]
      have : ((fun n : Int => UInt8.ofNat n.toNat) ∘ fun c : UInt8 => (c.toNat : Int)) = id := by funext c; simp
      rw [this]
      simp
    rw [hs] at hrun
    refine ok_pure hI (u := .string ⟨l.toArray⟩) ?_ (str_rep (by omega))
    have hc := run_convert_bytes_string (P := P) w t1 t2 el (some ad) l.length c h1 he h2
    rw [hn] at hu
    simp only [execOp, ho, hu, Sem.run_bind, hc, hrun, Result.andThen_ok, Sem.run_pure]
/-! strings to bytes -/
theorem bytesWorld_eq (w : World) (el : TypeId) (s : ByteArray) : Lib.bytesWorld w el s = w.drew.alloc (.cells (Lib.bytesCells w el s) el ((Lib.bytesCells w el s).size, (Lib.bytesCells w el s).size + 1)) := by
  have hh : (Lib.bytesWorld w el s).heap = (w.drew.alloc (.cells (Lib.bytesCells w el s) el ((Lib.bytesCells w el s).size, (Lib.bytesCells w el s).size + 1))).heap := by
    apply Array.ext_getElem?
    intro j
    rcases Nat.lt_trichotomy j w.heap.size with hj | hj | hj
    · rw [Lib.bytesWorld_at_old w el s j hj]
      exact (Below.heap_alloc w.drew _ j hj).symm
    · subst hj
      rw [Lib.bytesWorld_at_new]
      exact (heap_alloc_new w.drew _).symm
    · rw [Array.getElem?_eq_none (by rw [Lib.bytesWorld_size]; omega), Array.getElem?_eq_none (by show (w.heap.push _).size ≤ j; simp; omega)]
  have : Lib.bytesWorld w el s = { w.drew.alloc (.cells (Lib.bytesCells w el s) el ((Lib.bytesCells w el s).size, (Lib.bytesCells w el s).size + 1)) with heap := (Lib.bytesWorld w el s).heap } := rfl
  rw [this, hh]
theorem sim_stb {t1 t2 el : TypeId} {x : Operand} {s : S} (ho : o.op = .convert t1 t2 x) (h1 : P.underlying t1 = some .string) (h2 : P.underlying t2 = some (.slice el)) (he : P.underlying el = some (.int .u8)) (hx : RepV γ w (src e s) (a.eval x)) (hI : Inv G N γ σ w)
    (h : evalOp (.stb el s) e σ = some (v, σ1)) : OpOk P G N γ σ w ((execOp a.eval o).run P w) v σ1 := by
  simp only [evalOp] at h
  split at h
  · rename_i l e1
    rw [e1] at hx
    cases h
    obtain ⟨hv, hl⟩ := repC_str (repV_cell rfl hx)
    have hge := grownCap_ge w l.length 0 el
    have hle := grownCap_le_maxLen w l.length 0 el hl
    have hus : (Lib.bytesCells w el ⟨l.toArray⟩).size = grownCap w l.length 0 el := by
      simp only [Lib.bytesCells, Array.size_append, Array.size_map, Array.size_replicate, mk_size]
      simp <;> omega
    have hr : (execOp a.eval o).run P w = .ok (.value (.slice (some ⟨w.heap.size, 0, none⟩) l.length (grownCap w l.length 0 el))) (w.drew.alloc (.cells (Lib.bytesCells w el ⟨l.toArray⟩) el ((Lib.bytesCells w el ⟨l.toArray⟩).size, (Lib.bytesCells w el ⟨l.toArray⟩).size + 1))) := by
      have := Lib.run_convert_string_bytes (P := P) w t1 t2 el ⟨l.toArray⟩ h1 h2 he
      rw [mk_size, bytesWorld_eq] at this
      simp only [execOp, ho, hv, Sem.run_bind, this, Result.andThen_ok, Sem.run_pure]
    generalize hus' : Lib.bytesCells w el ⟨l.toArray⟩ = us at hr hus
    obtain ⟨d1, d2⟩ := hI.drew
    obtain ⟨i1, i2⟩ := d1.newOb (.cells us el (us.size, us.size + 1)) (.row (byteRows l).flatten el 0 0) (kset γ.κ w.heap.size 0) (fun b hb => kset_other _ _ (by have : b < w.heap.size := hb; omega)) (kset_dom (fun b k hk => by have := hI.dom b k hk; show b < w.heap.size + 1; omega) (by show w.heap.size < w.heap.size + 1; omega)) fun hx =>
      ⟨rfl, kset_self _ _ _, Nat.zero_le _, us, us.size, us.size + 1, heap_alloc_new w.drew _, ⟨Nat.le_succ _, .inr (Nat.le_refl _)⟩, by rw [byteRows_flat]; simp; omega, fun j hj => by
        have hj' : j < l.length := by rw [byteRows_flat] at hj; simpa using hj
        obtain ⟨_, g⟩ := cells_bytes (γ := γ) (w := w.drew) l
        have g' := g j hj
        have e2 : us.getD j undef = (Lib.strCells ⟨l.toArray⟩).getD j undef := by
          rw [← hus']
          simp [Lib.bytesCells, Lib.strCells, Array.getD_eq_getD_getElem?, List.getD_eq_getElem?_getD, Array.getElem?_append, hj']
        rw [e2]
        exact g'.ext hx⟩
    refine ⟨_, _, _, .inl hr, repV_of (sl_rep ?_ ?_ hge hle), i1, d2.trans i2, below_drew_alloc hI.base, fun b hb => kset_other _ _ (by have := hI.base; show b ≠ w.heap.size; omega)⟩
    · show (γ.O ++ _)[σ.length]? = _
      rw [← hI.len]
      simp <;> rfl
    · have := size_new w.drew us el (us.size, us.size + 1)
      rw [show w.drew.heap.size = w.heap.size from rfl] at this
      rw [this, hus, Nat.mul_one]
  · cases h
end Go.Proofs.YtlehfgdhebapeaaDoor.KM
/- Comparisons, function values, maps (second form). -/
namespace Go.Proofs.YtlehfgdhebapeaaDoor.KM
open Go Go.RowKit
variable {P : Program} {G : List (Nat × List V)} {N : Nat} {γ : Gh} {σ σ1 : St} {w : World} {e : Env} {a : Act} {o : Oper} {v : V}

theorem run_equal_bool {t : TypeId} (ht : P.underlying t = some .bool) (p q : Bool) : (Op.equal t (.bool p) (.bool q)).run P w = .ok (p == q) w :=
  have h : ∀ d, (Op.equalIn (d + 1) t (.bool p) (.bool q)).run P w = .ok (p == q) w := fun d => by simp [Op.equalIn, run_underlying ht]
  h 9999
theorem run_equal_slice1 {t el : TypeId} (ht : P.underlying t = some (.slice el)) (n c : Nat) (b : Option Addr) (n' c' : Nat) : (Op.equal t (.slice none n c) (.slice b n' c')).run P w = .ok b.isNone w :=
  have h : ∀ d, (Op.equalIn (d + 1) t (.slice none n c) (.slice b n' c')).run P w = .ok b.isNone w := fun d => by simp [Op.equalIn, run_underlying ht]
  h 9999
theorem run_equal_slice2 {t el : TypeId} (ht : P.underlying t = some (.slice el)) (n c : Nat) (b : Addr) (n' c' : Nat) : (Op.equal t (.slice (some b) n' c') (.slice none n c)).run P w = .ok false w :=
  have h : ∀ d, (Op.equalIn (d + 1) t (.slice (some b) n' c') (.slice none n c)).run P w = .ok false w := fun d => by simp [Op.equalIn, run_underlying ht]
  h 9999
theorem run_equal_ptr1 {t el : TypeId} (ht : P.underlying t = some (.pointer el)) (b : Option Addr) : (Op.equal t (.pointer none) (.pointer b)).run P w = .ok b.isNone w :=
  have h : ∀ d, (Op.equalIn (d + 1) t (.pointer none) (.pointer b)).run P w = .ok b.isNone w := fun d => by simp [Op.equalIn, run_underlying ht]
  h 9999
theorem run_equal_ptr2 {t el : TypeId} (ht : P.underlying t = some (.pointer el)) (b : Addr) : (Op.equal t (.pointer (some b)) (.pointer none)).run P w = .ok false w :=
  have h : ∀ d, (Op.equalIn (d + 1) t (.pointer (some b)) (.pointer none)).run P w = .ok false w := fun d => by simp [Op.equalIn, run_underlying ht]
  h 9999

theorem eq_lift {neg : Bool} {t ty : TypeId} {x y : Operand} {z : Bool} (ho : o.op = .binOp (if neg then .neq else .eql) t x y ty) (hg : (eqGuard (if neg then .neq else .eql) t x y (a.eval x) (a.eval y)).run P w = .ok () w)
    (hb : (binOp .eql t (a.eval x) (a.eval y)) = (do pure (.bool (← Op.equal t (a.eval x) (a.eval y))))) (hb' : (binOp .neq t (a.eval x) (a.eval y)) = (do pure (.bool (!(← Op.equal t (a.eval x) (a.eval y))))))
    (hr : (Op.equal t (a.eval x) (a.eval y)).run P w = .ok z w) : (execOp a.eval o).run P w = .ok (.value (.bool (z != neg))) w := by
  cases neg
  · simp only [Bool.false_eq_true, if_false] at ho hg
    simp [execOp, ho, hg, hb, hr]
  · simp only [if_true] at ho hg
    simp [execOp, ho, hg, hb', hr]

/-- fields of one cell each, one behind the other -/
def oneTy (P : Program) (t : TypeId) (k : Nat) : Bool := match P.underlying t, k with
  | some .bool, 0 | some (.int _), 1 | some .string, 2 => true
  | _, _ => false
def okFlat (P : Program) : List Field → Nat → List Nat → Bool
  | [], _, [] => true
  | f :: fs, k, c :: ks => f.offset == k && (f.name != "_" && (oneTy P f.type c && okFlat P fs (k + 1) ks))
  | _, _, _ => false
theorem part_one {t : TypeId} {c : Nat} (h : oneTy P t c = true) {us : Array Value} {k : Nat} {u : Value} (hu : us[k]? = some u) : (part t us k).run P w = .ok u w := by
  unfold oneTy at h
  have key : ∀ d, P.underlying t = some d → aggB d = false → (part t us k).run P w = .ok u w := fun d hd ha => by
    have := run_isAgg (P := P) (w := w) hd
    rw [ha] at this
    simp [part, this, hu]
  split at h
  · rename_i hd; exact key _ hd rfl
  · rename_i hd; exact key _ hd rfl
  · rename_i hd; exact key _ hd rfl
  · cases h
theorem eq_cell {t : TypeId} {c : Nat} (h : oneTy P t c = true) {x y : V} {z : Bool} {u u' : Value} (hu : RepC γ w x u) (hu' : RepC γ w y u') (hz : eqS c x y = some z) (d : Nat) : (Op.equalIn (d + 1) t u u').run P w = .ok z w := by
  unfold oneTy at h
  unfold eqS at hz
  split at hz
  · cases hz
    rw [repC_bool hu, repC_bool hu']
    split at h
    · rename_i hd _; simp [Op.equalIn, run_underlying hd]
    · rename_i hc; cases hc
    · rename_i hc; cases hc
    · cases h
  · split at hz
    · rename_i hk
      subst hk
      cases hz
      rw [repC_int hu, repC_int hu']
      split at h
      · rename_i hc; cases hc
      · rename_i hd _; simp [Op.equalIn, run_underlying hd]
      · rename_i hc; cases hc
      · cases h
    · cases hz
  · rename_i l l'
    cases hz
    rw [(repC_str hu).1, (repC_str hu').1]
    split at h
    · rename_i hc; cases hc
    · rename_i hc; cases hc
    · rename_i hd _
      simp only [Op.equalIn, run_underlying hd, Sem.run_bind, Result.andThen_ok, Sem.run_pure, beq_toListBytes, ByteArray.toList_eq]
    · cases h
  · cases hz
theorem eq_fields {d : Nat} : ∀ {fs : List Field} {k : Nat} {ks : List Nat} {as bs : List V} {us vs : Array Value} {z : Bool}, okFlat P fs k ks = true → eqRow ks as bs = some z → (∀ j, j < ks.length → ∃ u, us[k + j]? = some u ∧ RepC γ w (as.getD j .und) u) → (∀ j, j < ks.length → ∃ u, vs[k + j]? = some u ∧ RepC γ w (bs.getD j .und) u) →
    (Op.eqFields (d + 1) us vs fs).run P w = .ok z w
  | [], k, [], as, bs, us, vs, z, _, h, _, _ => by
    cases as <;> cases bs <;> simp [eqRow] at h
    subst h
    rfl
  | f :: fs, k, c :: ks, as, bs, us, vs, z, hok, h, ha, hb => by
    simp only [okFlat, Bool.and_eq_true, beq_iff_eq, bne_iff_ne] at hok
    obtain ⟨h1, h2, h3, h4⟩ := hok
    cases as with
    | nil => simp [eqRow] at h
    | cons x r =>
    cases bs with
    | nil => simp [eqRow] at h
    | cons y s =>
    obtain ⟨u, hu, hru⟩ := ha 0 (by simp)
    obtain ⟨u', hu', hru'⟩ := hb 0 (by simp)
    simp only [eqRow, Option.bind_eq_some_iff] at h
    obtain ⟨z1, hz1, h⟩ := h
    have e1 := eq_cell (P := P) h3 hru hru' hz1 d
    have p1 := part_one (P := P) (w := w) h3 (us := us) (k := f.offset) (by rw [h1]; exact hu)
    have p2 := part_one (P := P) (w := w) h3 (us := vs) (k := f.offset) (by rw [h1]; exact hu')
    unfold Op.eqFields
    simp only [ne_eq, h2, not_false_eq_true, if_true, Sem.run_bind, p1, p2, Result.andThen_ok, e1]
    cases z1 with
    | false =>
      simp at h
      subst h
      simp
    | true =>
      simp only [if_true] at h
      have ih := eq_fields (d := d) (us := us) (vs := vs) h4 h (fun j hj => by
        have := ha (j + 1) (by simpa using hj)
        rw [show k + (j + 1) = k + 1 + j by omega] at this
        simpa using this) (fun j hj => by
        have := hb (j + 1) (by simpa using hj)
        rw [show k + (j + 1) = k + 1 + j by omega] at this
        simpa using this)
      simp [ih]
  | [], _, _ :: _, _, _, _, _, _, h, _, _, _ => by simp [okFlat] at h
  | _ :: _, _, [], _, _, _, _, _, h, _, _, _ => by simp [okFlat] at h

/-- the elements of an array, one cell each -/
theorem eq_elems {d c : Nat} {el : TypeId} {us vs : Array Value} (h1 : oneTy P el c = true) : ∀ (m k : Nat) (as bs : List V) (z : Bool), eqRow (List.replicate m c) as bs = some z → (∀ j, j < m → ∃ u, us[k + j]? = some u ∧ RepC γ w (as.getD j .und) u) → (∀ j, j < m → ∃ u, vs[k + j]? = some u ∧ RepC γ w (bs.getD j .und) u) →
    (forIn (List.range' k m) ((none, ()) : Option Bool × Unit) (fun i (_ : Option Bool × Unit) => do
      let x ← part el us (i * 1)
      let y ← part el vs (i * 1)
      let z ← Op.equalIn (d + 1) el x y
      if (!z) = true then pure (ForInStep.done (some false, ())) else pure (ForInStep.yield (none, ())) : Nat → Option Bool × Unit → Sem (ForInStep (Option Bool × Unit)))).run P w = .ok (if z = true then (none, ()) else (some false, ())) w
  | 0, k, as, bs, z, h, _, _ => by
    cases as <;> cases bs <;> simp [eqRow] at h
    subst h
    simp
  | m + 1, k, as, bs, z, h, ha, hb => by
    rw [List.replicate_succ] at h
    cases as with
    | nil => simp [eqRow] at h
    | cons x r =>
    cases bs with
    | nil => simp [eqRow] at h
    | cons y s =>
    obtain ⟨u, hu, hru⟩ := ha 0 (by omega)
    obtain ⟨u', hu', hru'⟩ := hb 0 (by omega)
    simp only [eqRow, Option.bind_eq_some_iff] at h
    obtain ⟨z1, hz1, h⟩ := h
    have e1 := eq_cell (P := P) h1 hru hru' hz1 d
    have p1 := part_one (P := P) (w := w) h1 (us := us) (k := k) hu
    have p2 := part_one (P := P) (w := w) h1 (us := vs) (k := k) hu'
    rw [List.range'_succ, List.forIn_cons]
    simp only [Sem.run_bind, Nat.mul_one, p1, p2, Result.andThen_ok, e1]
    cases z1 with
    | false =>
      simp at h
      subst h
      simp
    | true =>
      simp only [if_true] at h
      have ih := eq_elems (d := d) h1 m (k + 1) r s z h (fun j hj => by
        have := ha (j + 1) (by omega)
        rw [show k + (j + 1) = k + 1 + j by omega] at this
        simpa using this) (fun j hj => by
        have := hb (j + 1) (by omega)
        rw [show k + (j + 1) = k + 1 + j by omega] at this
        simpa using this)
      simp only [Nat.mul_one] at ih
      simp only [Bool.not_true, Bool.false_eq_true, if_false, Sem.run_pure, Result.andThen_ok]
      exact ih
theorem eq_arr {d n c : Nat} {t el : TypeId} {fi : TypeInfo} {us vs : Array Value} {as bs : List V} {z : Bool} (ht : P.underlying t = some (.array n el)) (hfi : P.info? el = some fi) (hs : fi.size = 1) (h1 : oneTy P el c = true) (h : eqRow (List.replicate n c) as bs = some z)
    (ha : ∀ j, j < n → ∃ u, us[j]? = some u ∧ RepC γ w (as.getD j .und) u) (hb : ∀ j, j < n → ∃ u, vs[j]? = some u ∧ RepC γ w (bs.getD j .und) u) : (Op.equalIn (d + 2) t (.agg us) (.agg vs)).run P w = .ok z w := by
  rw [Op.equalIn]
  simp only [Sem.run_bind, run_underlying ht, Result.andThen_ok, sizeOf, typeInfo]
  simp only [run_program, Result.andThen_ok, hfi, Sem.run_pure, hs]
  rw [Std.Legacy.Range.forIn_eq_forIn_range']
  have := eq_elems (d := d) h1 n 0 as bs z h (fun j hj => by simpa using ha j hj) (fun j hj => by simpa using hb j hj)
  simp [Std.Legacy.Range.size] at this ⊢
  rw [this]
  cases z <;> simp

def isConst : Operand → Bool
  | .const _ => true
  | _ => false
def okEq (P : Program) (k : EqK) (t : TypeId) (x y : Operand) : Bool :=
  match k, P.underlying t with
  | .bool, some .bool => true
  | .nilsl, some (.slice _) => true
  | .nilpt, some (.pointer _) => true
  | .nilfn, some (.func _ _ _) => true
  | .nilif, some (.interface _) => isConst x || isConst y
  | .flat ks, some (.struct fs) => okFlat P fs.toList 0 ks && (!P.stoodInHeld t && !P.eqGuardType P.depth t)
  | .flat ks, some (.array n el) => ks == List.replicate n (ks.headD 1) && (oneTy P el (ks.headD 1) && ((match P.info? el with
    | some fi => fi.size == 1
    | none => false) && !P.eqGuardType P.depth t))
  | _, _ => false

theorem sim_eq {k : EqK} {neg : Bool} {t ty : TypeId} {x y : Operand} {s1 s2 : S} (ho : o.op = .binOp (if neg then .neq else .eql) t x y ty) (hk : okEq P k t x y = true) (hx : RepV γ w (src e s1) (a.eval x)) (hy : RepV γ w (src e s2) (a.eval y)) (hI : Inv G N γ σ w)
    (h : evalOp (.eq k neg s1 s2) e σ = some (v, σ1)) : OpOk P G N γ σ w ((execOp a.eval o).run P w) v σ1 := by
  simp only [evalOp, Option.map_eq_some_iff] at h
  obtain ⟨z, h, h2⟩ := h
  · cases h2
    have slice2 : ∀ b n c b' n' c', a.eval x = .slice b n c → a.eval y = .slice b' n' c' → (Op.equal t (.slice b n c) (.slice b' n' c')).run P w = .ok z w → OpOk P G N γ σ w ((execOp a.eval o).run P w) (.bool (z != neg)) σ := fun b n c b' n' c' hx' hy' hr => by
      refine ok_pure hI (eq_lift (z := z) ho ?_ ?_ ?_ ?_) bool_rep <;> rw [hx', hy']
      · cases neg <;> simp [eqGuard]
      · rfl
      · rfl
      · exact hr
    have ptr2 : ∀ b b', a.eval x = .pointer b → a.eval y = .pointer b' → (Op.equal t (.pointer b) (.pointer b')).run P w = .ok z w → OpOk P G N γ σ w ((execOp a.eval o).run P w) (.bool (z != neg)) σ := fun b b' hx' hy' hr => by
      refine ok_pure hI (eq_lift (z := z) ho ?_ ?_ ?_ ?_) bool_rep <;> rw [hx', hy']
      · cases neg <;> simp [eqGuard]
      · rfl
      · rfl
      · exact hr
    have slx : ∀ {s : S} {X : Value} {i g off len m : Nat} {own : Bool}, src e s = .sl i g off len m own → RepV γ w (src e s) X → ∃ ad cap, X = .slice (some ad) len cap := fun {s X i g off len m own} e1 hX => by
      rw [e1] at hX
      obtain ⟨b', o', cap, _, _, hu, _⟩ := repC_sl (repV_cell rfl hX)
      exact ⟨_, _, hu⟩
    have ptx : ∀ {s : S} {X : Value} {i g off : Nat}, src e s = .ptr i g off → RepV γ w (src e s) X → ∃ ad, X = .pointer (some ad) := fun {s X i g off} e1 hX => by
      rw [e1] at hX
      obtain ⟨b', _, _, hu, _⟩ := repC_ptr (repV_cell rfl hX)
      exact ⟨_, hu⟩
    unfold okEq at hk
    split at hk
    · rename_i ht
      simp only [eqV] at h
      unfold eqB at h
      split at h
      · rename_i p q e1 e2
        rw [e1] at hx
        rw [e2] at hy
        have hx' := repC_bool (repV_cell rfl hx)
        have hy' := repC_bool (repV_cell rfl hy)
        cases h
        refine ok_pure hI (eq_lift (z := p == q) ho ?_ ?_ ?_ ?_) bool_rep <;> rw [hx', hy']
        · cases neg <;> simp [eqGuard]
        · rfl
        · rfl
        · exact run_equal_bool ht p q
      · cases h
    · rename_i el ht
      simp only [eqV] at h
      unfold eqSl at h
      split at h
      · rename_i e1 e2
        rw [e1] at hx
        rw [e2] at hy
        cases h
        exact slice2 _ _ _ _ _ _ (repC_nils (repV_cell rfl hx)) (repC_nils (repV_cell rfl hy)) (run_equal_slice1 ht _ _ _ _ _)
      · rename_i e1 e2
        rw [e1] at hx
        rw [e2] at hy
        obtain ⟨ad, cap, hu, _⟩ := repC_lst (repV_cell rfl hy)
        cases h
        exact slice2 _ _ _ _ _ _ (repC_nils (repV_cell rfl hx)) hu (run_equal_slice1 ht _ _ _ _ _)
      · rename_i e1 e2
        rw [e1] at hx
        rw [e2] at hy
        obtain ⟨ad, cap, hu, _⟩ := repC_lst (repV_cell rfl hx)
        cases h
        exact slice2 _ _ _ _ _ _ hu (repC_nils (repV_cell rfl hy)) (run_equal_slice2 ht _ _ _ _ _)
      · rename_i e1 e2
        obtain ⟨ad, cap, hu⟩ := slx e2 hy
        rw [e1] at hx
        cases h
        exact slice2 _ _ _ _ _ _ (repC_nils (repV_cell rfl hx)) hu (run_equal_slice1 ht _ _ _ _ _)
      · rename_i e1 e2
        obtain ⟨ad, cap, hu⟩ := slx e1 hx
        rw [e2] at hy
        cases h
        exact slice2 _ _ _ _ _ _ hu (repC_nils (repV_cell rfl hy)) (run_equal_slice2 ht _ _ _ _ _)
      · cases h
    · rename_i el ht
      simp only [eqV] at h
      unfold eqPt at h
      split at h
      · rename_i e1 e2
        rw [e1] at hx
        rw [e2] at hy
        cases h
        exact ptr2 _ _ (repC_nilp (repV_cell rfl hx)) (repC_nilp (repV_cell rfl hy)) (run_equal_ptr1 ht _)
      · rename_i e1 e2
        obtain ⟨ad, hu⟩ := ptx e2 hy
        rw [e1] at hx
        cases h
        exact ptr2 _ _ (repC_nilp (repV_cell rfl hx)) hu (run_equal_ptr1 ht _)
      · rename_i e1 e2
        obtain ⟨ad, hu⟩ := ptx e1 hx
        rw [e2] at hy
        cases h
        exact ptr2 _ _ hu (repC_nilp (repV_cell rfl hy)) (run_equal_ptr2 ht _)
      · rename_i e1 e2
        rw [e1] at hx
        rw [e2] at hy
        obtain ⟨_, _, _, _, hu, _⟩ := repC_imm (repV_cell rfl hy)
        cases h
        exact ptr2 _ _ (repC_nilp (repV_cell rfl hx)) hu (run_equal_ptr1 ht _)
      · rename_i e1 e2
        rw [e1] at hx
        rw [e2] at hy
        obtain ⟨_, _, _, _, hu, _⟩ := repC_imm (repV_cell rfl hx)
        cases h
        exact ptr2 _ _ hu (repC_nilp (repV_cell rfl hy)) (run_equal_ptr2 ht _)
      · cases h
    · rename_i ps rs va ht
      have hfn : ∀ d, (Op.equalIn (d + 1) t .nilFunc .nilFunc).run P w = .ok true w := fun d => by simp [Op.equalIn, run_underlying ht]
      have hfn1 : ∀ d f p q, (Op.equalIn (d + 1) t (.func f p q) .nilFunc).run P w = .ok false w := fun d f p q => by simp [Op.equalIn, run_underlying ht]
      have hfn2 : ∀ d f p q, (Op.equalIn (d + 1) t .nilFunc (.func f p q)).run P w = .ok false w := fun d f p q => by simp [Op.equalIn, run_underlying ht]
      have fin : ∀ X Y, a.eval x = X → a.eval y = Y → (eqGuard (if neg then .neq else .eql) t x y X Y).run P w = .ok () w → (binOp .eql t X Y) = (do pure (.bool (← Op.equal t X Y))) → (binOp .neq t X Y) = (do pure (.bool (!(← Op.equal t X Y)))) → (Op.equal t X Y).run P w = .ok z w → OpOk P G N γ σ w ((execOp a.eval o).run P w) (.bool (z != neg)) σ := fun X Y hx' hy' q1 q2 q3 q4 => by
        subst hx' hy'
        exact ok_pure hI (eq_lift (z := z) ho q1 q2 q3 q4) bool_rep
      simp only [eqV] at h
      unfold eqFn at h
      split at h
      · rename_i e1 e2
        rw [e1] at hx
        rw [e2] at hy
        cases h
        exact fin _ _ (repC_nilf (repV_cell rfl hx)) (repC_nilf (repV_cell rfl hy)) (by cases neg <;> simp [eqGuard]) rfl rfl (hfn 9999)
      · rename_i e1 e2
        rw [e1] at hx
        rw [e2] at hy
        obtain ⟨ua, uc, hu, _⟩ := repC_fn (repV_cell rfl hx)
        cases h
        exact fin _ _ hu (repC_nilf (repV_cell rfl hy)) (by cases neg <;> simp [eqGuard]) rfl rfl (hfn1 9999 _ _ _)
      · rename_i e1 e2
        rw [e1] at hx
        rw [e2] at hy
        obtain ⟨ua, uc, hu, _⟩ := repC_fn (repV_cell rfl hy)
        cases h
        exact fin _ _ (repC_nilf (repV_cell rfl hx)) hu (by cases neg <;> simp [eqGuard]) rfl rfl (hfn2 9999 _ _ _)
      · cases h
    · rename_i ms ht
      have hin : ∀ d, (Op.equalIn (d + 1) t .nilIface .nilIface).run P w = .ok true w := fun d => by simp [Op.equalIn, run_underlying ht]
      have hin1 : ∀ d f p, (Op.equalIn (d + 1) t (.iface f p) .nilIface).run P w = .ok false w := fun d f p => by simp [Op.equalIn, run_underlying ht]
      have hin2 : ∀ d f p, (Op.equalIn (d + 1) t .nilIface (.iface f p)).run P w = .ok false w := fun d f p => by simp [Op.equalIn, run_underlying ht]
      have fin : ∀ X Y, a.eval x = X → a.eval y = Y → (eqGuard (if neg then .neq else .eql) t x y X Y).run P w = .ok () w → (binOp .eql t X Y) = (do pure (.bool (← Op.equal t X Y))) → (binOp .neq t X Y) = (do pure (.bool (!(← Op.equal t X Y)))) → (Op.equal t X Y).run P w = .ok z w → OpOk P G N γ σ w ((execOp a.eval o).run P w) (.bool (z != neg)) σ := fun X Y hx' hy' q1 q2 q3 q4 => by
        subst hx' hy'
        exact ok_pure hI (eq_lift (z := z) ho q1 q2 q3 q4) bool_rep
      have hguard : (eqGuard (if neg then .neq else .eql) t x y .nilIface .nilIface).run P w = .ok () w := by
        simp only [Bool.or_eq_true] at hk
        rcases hk with hk | hk
        · cases x <;> simp [isConst] at hk
          cases neg <;> simp [eqGuard]
        · cases y <;> simp [isConst] at hk
          cases neg <;> simp [eqGuard]
      simp only [eqV] at h
      unfold eqIf at h
      split at h
      · rename_i e1 e2
        rw [e1] at hx
        rw [e2] at hy
        cases h
        exact fin _ _ (repC_nili (repV_cell rfl hx)) (repC_nili (repV_cell rfl hy)) hguard rfl rfl (hin 9999)
      · rename_i e1 e2
        rw [e1] at hx
        rw [e2] at hy
        obtain ⟨ut, ux, hu⟩ := repC_ifc (repV_cell rfl hx)
        cases h
        exact fin _ _ hu (repC_nili (repV_cell rfl hy)) (by cases neg <;> simp [eqGuard]) rfl rfl (hin1 9999 _ _)
      · rename_i e1 e2
        rw [e1] at hx
        rw [e2] at hy
        obtain ⟨ut, ux, hu⟩ := repC_ifc (repV_cell rfl hy)
        cases h
        exact fin _ _ (repC_nili (repV_cell rfl hx)) hu (by cases neg <;> simp [eqGuard]) rfl rfl (hin2 9999 _ _)
      · cases h
    · rename_i ks fs ht
      simp only [Bool.and_eq_true, Bool.not_eq_true'] at hk
      obtain ⟨hk1, hk2, hk3⟩ := hk
      simp only [eqV] at h
      unfold eqFl at h
      split at h
      · rename_i as bs e1 e2
        rw [e1] at hx
        rw [e2] at hy
        obtain ⟨us, hu, hul, hur⟩ := repV_agg hx
        obtain ⟨vs, hv, hvl, hvr⟩ := repV_agg hy
        split at h
        · rename_i hlen
          have hfo : P.fieldsOf t = fs := by simp [Program.fieldsOf, ht]
          have hf := eq_fields (P := P) (γ := γ) (w := w) (d := 9998) (us := us.toArray) (vs := vs.toArray) hk1 h (fun j hj => by
            have hj1 : j < as.length := by omega
            have := hur j hj1
            exact ⟨us.getD j undef, by simp [List.getD_eq_getElem?_getD, show j < us.length by omega], this⟩) (fun j hj => by
            have hj1 : j < bs.length := by omega
            have := hvr j hj1
            exact ⟨vs.getD j undef, by simp [List.getD_eq_getElem?_getD, show j < vs.length by omega], this⟩)
          have hE := run_equalIn_struct (P := P) w 9999 t us.toArray vs.toArray (by rw [hfo]; exact ht) hk2
          rw [hfo, hf] at hE
          have hg := run_eqGuard_agg (P := P) w (if neg then .neq else .eql) t x y us.toArray vs.toArray hk3
          refine ok_pure hI (u := .bool (z != neg)) ?_ bool_rep
          cases neg
          · simp only [Bool.false_eq_true, if_false] at ho hg
            simp [execOp, ho, hu, hv, hg, run_eql_struct, hE]
          · simp only [if_true] at ho hg
            simp [execOp, ho, hu, hv, hg, run_neq_struct, hE]
        · cases h
      · cases h
    · rename_i ks n el ht
      simp only [Bool.and_eq_true, Bool.not_eq_true', beq_iff_eq] at hk
      obtain ⟨hk0, hk1, hk2, hk3⟩ := hk
      split at hk2
      · rename_i fi hfi
        have hs : fi.size = 1 := eq_of_beq hk2
        simp only [eqV] at h
        unfold eqFl at h
        split at h
        · rename_i as bs e1 e2
          rw [e1] at hx
          rw [e2] at hy
          obtain ⟨us, hu, hul, hur⟩ := repV_agg hx
          obtain ⟨vs, hv, hvl, hvr⟩ := repV_agg hy
          split at h
          · rename_i hlen
            have hn : ks.length = n := by rw [hk0, List.length_replicate]
            rw [hk0] at h
            have hE := eq_arr (P := P) (γ := γ) (w := w) (d := 9998) (us := us.toArray) (vs := vs.toArray) ht hfi hs hk1 h (fun j hj => by
              have hj1 : j < as.length := by omega
              have := hur j hj1
              exact ⟨us.getD j undef, by simp [List.getD_eq_getElem?_getD, show j < us.length by omega], this⟩) (fun j hj => by
              have hj1 : j < bs.length := by omega
              have := hvr j hj1
              exact ⟨vs.getD j undef, by simp [List.getD_eq_getElem?_getD, show j < vs.length by omega], this⟩)
            have hg := run_eqGuard_agg (P := P) w (if neg then .neq else .eql) t x y us.toArray vs.toArray hk3
            refine ok_pure hI (u := .bool (z != neg)) ?_ bool_rep
            cases neg
            · simp only [Bool.false_eq_true, if_false] at ho hg
              simp [execOp, ho, hu, hv, hg, run_eql_struct, hE]
            · simp only [if_true] at ho hg
              simp [execOp, ho, hu, hv, hg, run_neq_struct, hE]
          · cases h
        · cases h
      · cases hk2
    · cases hk

/-- a function value -/
theorem sim_mkf {f : Nat} {first captured : Array Operand} {as cs : List S} (ho : o.op = .makeFunc (.func f) first captured) (ha : as.length = first.toList.length ∧ ∀ (i : Nat) s x, as[i]? = some s → first.toList[i]? = some x → RepV γ w (src e s) (a.eval x)) (hc : cs.length = captured.toList.length ∧ ∀ (i : Nat) s x, cs[i]? = some s → captured.toList[i]? = some x → RepV γ w (src e s) (a.eval x)) (hI : Inv G N γ σ w)
    (h : evalOp (.mkf f as cs) e σ = some (v, σ1)) : OpOk P G N γ σ w ((execOp a.eval o).run P w) v σ1 := by
  simp only [evalOp] at h
  split at h
  · rename_i hcell
    simp only [Bool.and_eq_true] at hcell
    cases h
    have key : ∀ {ss : List S} {xs : List Operand}, (ss.length = xs.length ∧ ∀ (i : Nat) s x, ss[i]? = some s → xs[i]? = some x → RepV γ w (src e s) (a.eval x)) → (ss.map (src e)).all V.cellB = true → (ss.map (src e)).length = (xs.map a.eval).length ∧ ∀ j, j < (ss.map (src e)).length → RepC γ w ((ss.map (src e)).getD j .und) ((xs.map a.eval).getD j undef) := fun {ss xs} hs hcc => by
      refine ⟨by simp [hs.1], fun j hj => ?_⟩
      have hj1 : j < ss.length := by simpa using hj
      have hj2 : j < xs.length := by omega
      have e1 : (ss.map (src e)).getD j .und = src e ss[j] := by simp [List.getD_eq_getElem?_getD, hj1]
      have e2 : (xs.map a.eval).getD j undef = a.eval xs[j] := by rw [List.getD_eq_getElem?_getD, List.getElem?_map, List.getElem?_eq_getElem hj2]; rfl
      rw [e1, e2]
      exact repV_cell (List.all_eq_true.1 hcc _ (by simp only [List.mem_map]; exact ⟨ss[j], List.getElem_mem hj1, rfl⟩)) (hs.2 j _ _ (List.getElem?_eq_getElem hj1) (List.getElem?_eq_getElem hj2))
    obtain ⟨a1, a2⟩ := key ha hcell.1
    obtain ⟨c1, c2⟩ := key hc hcell.2
    refine ok_pure hI (u := .func (.func f) (first.toList.map a.eval).toArray (captured.toList.map a.eval).toArray) ?_ (repV_of (.fn a1 c1 a2 c2))
    have e1 : (first.toList.map a.eval).toArray = first.map a.eval := by apply Array.toList_inj.1; simp
    have e2 : (captured.toList.map a.eval).toArray = captured.map a.eval := by apply Array.toList_inj.1; simp
    rw [e1, e2]
    simp [execOp, ho, Instr.makeFunc]
  · cases h
end Go.Proofs.YtlehfgdhebapeaaDoor.KM
/- Maps by strings (second form). -/
namespace Go.Proofs.YtlehfgdhebapeaaDoor.KM
open Go Go.RowKit
variable {P : Program} {G : List (Nat × List V)} {N : Nat} {γ : Gh} {σ σ1 : St} {w : World} {e : Env} {a : Act} {o : Oper} {v : V}

theorem sim_mmk {t : TypeId} (ho : o.op = .makeMap t none) (hI : Inv G N γ σ w) (h : evalOp .mmk e σ = some (v, σ1)) : OpOk P G N γ σ w ((execOp a.eval o).run P w) v σ1 := by
  simp only [evalOp] at h
  cases h
  obtain ⟨i1, i2⟩ := hI.newMap
  refine ⟨.map (some w.heap.size), _, _, .inl ?_, repV_of (.mp (g' := 0) ?_ rfl (fun _ => rfl)), i1, i2, below_alloc hI.base, fun _ _ => rfl⟩
  · simp [execOp, ho, Instr.makeMap, newObj, Sem.run]
  · show (γ.O ++ [(w.heap.size, 0)])[σ.length]? = _
    rw [← hI.len]; simp

/-- what is found -/
theorem find_now {s : List UInt8} : ∀ {kvs : List (List UInt8 × V)} {es : List MapEntry} {i : Nat}, es.length = kvs.length → (∀ (j : Nat) (k : List UInt8) (v : V), kvs[j]? = some (k, v) → ∃ en : MapEntry, es[j]? = some en ∧ en.key = .string ⟨k.toArray⟩ ∧ RepC γ w v en.val) →
    (findK s kvs i = none ∧ Instr.findNow .string (.string ⟨s.toArray⟩) es i = some none) ∨ ∃ j v en, findK s kvs i = some (i + j, v) ∧ kvs[j]? = some (s, v) ∧ es[j]? = some en ∧ Instr.findNow .string (.string ⟨s.toArray⟩) es i = some (some (i + j, en.val)) ∧ RepC γ w v en.val
  | [], [], i, _, _ => .inl ⟨rfl, rfl⟩
  | [], _ :: _, _, h, _ => by simp at h
  | _ :: _, [], _, h, _ => by simp at h
  | (k, v) :: kvs, en :: es, i, hl, hr => by
    obtain ⟨en', h1, h2, h3⟩ := hr 0 k v rfl
    simp at h1
    subst h1
    have hb : ((⟨s.toArray⟩ : ByteArray) == ⟨k.toArray⟩) = (s == k) := by
      rw [beq_toListBytes, ByteArray.toList_eq, ByteArray.toList_eq]
    by_cases hk : k = s
    · subst hk
      refine .inr ⟨0, v, en, by simp [findK], rfl, rfl, ?_, h3⟩
      simp only [Instr.findNow, h2, Instr.sameNow, hb, beq_self_eq_true, Nat.add_zero]
    · have hkb : (s == k) = false := by simpa using fun h => hk h.symm
      have ih := find_now (s := s) (kvs := kvs) (es := es) (i := i + 1) (by simpa using hl) (fun j k' v' hj => by simpa using hr (j + 1) k' v' (by simpa using hj))
      have hf : findK s ((k, v) :: kvs) i = findK s kvs (i + 1) := by simp [findK, hk]
      have hn : Instr.findNow .string (.string ⟨s.toArray⟩) (en :: es) i = Instr.findNow .string (.string ⟨s.toArray⟩) es (i + 1) := by
        simp only [Instr.findNow, h2, Instr.sameNow, hb, hkb]
      rw [hf, hn]
      rcases ih with ⟨a1, a2⟩ | ⟨j, v', en', a1, a2, a3, a4, a5⟩
      · exact .inl ⟨a1, a2⟩
      · refine .inr ⟨j + 1, v', en', ?_, by simpa using a2, by simpa using a3, ?_, a5⟩
        · rw [a1]; congr 2; omega
        · rw [a4]; congr 3; omega

theorem flat_rep {v : V} {u : Value} (hf : v.flatB = true) (h : RepC γ w v u) (γ' : Gh) (w' : World) : RepC γ' w' v u := by
  cases h with
  | row h => cases h with
    | bool => exact .row .bool
    | int => exact .row .int
    | str h => exact .row (.str h)
    | nili => exact .row .nili
    | ifc => exact .row .ifc
    | nils => exact .row .nils
    | lst => cases hf
  | nilp => exact .nilp
  | nilf => exact .nilf
  | ifc => exact .ifc
  | imm => cases hf
  | ptr => cases hf
  | sl => cases hf
  | fn => cases hf
  | mp => cases hf
theorem run_findKey {kt : TypeId} {k : Value} {l : List MapEntry} {r : Option (Nat × Value)} (hd : P.underlying kt = some .string) (h : Instr.findNow .string k l 0 = some r) : (Instr.findKey kt k l).run P w = .ok r w := by
  simp [Instr.findKey, run_underlying hd, Result.andThen, h]
def setO (w : World) (r : Nat) (o : Obj) : World := { w with heap := w.heap.setIfInBounds r o }
theorem run_setObj {r : Nat} {es : Array MapEntry} {clock : Nat} (o : Obj) (hb : w.heap[r]? = some (.map es clock)) : (setObj r o).run P w = .ok () (setO w r o) := by
  simp [setObj, Sem.run, hb, setO]

theorem sim_mlk {t kt et : TypeId} {fi : TypeInfo} {z : Value} {zv : V} {x y : Operand} {s1 s2 : S} (ho : o.op = .lookup t x y false) (ht : P.underlying t = some (.map kt et)) (hk : P.underlying kt = some .string) (hfi : P.info? et = some fi) (hz : fi.zero = some z) (hc : constB zv z = true)
    (hx : RepV γ w (src e s1) (a.eval x)) (hy : RepV γ w (src e s2) (a.eval y)) (hI : Inv G N γ σ w) (h : evalOp (.mlk zv s1 s2) e σ = some (v, σ1)) : OpOk P G N γ σ w ((execOp a.eval o).run P w) v σ1 := by
  simp only [evalOp] at h
  split at h
  · rename_i i s e1 e2
    rw [e1] at hx
    rw [e2] at hy
    obtain ⟨hy', _⟩ := repC_str (repV_cell rfl hy)
    obtain ⟨blk, g', hO, hu⟩ := repC_mp (repV_cell rfl hx)
    split at h
    · rename_i kvs hkv
      cases h
      obtain ⟨hg0, _, es, hh, hes, hent⟩ := hI.obj i _ _ hkv hO
      have hx' := hu hg0
      have hh : w.heap[blk]? = some (.map es kvs.length) := hh
      have hchk : ∀ b, (Instr.checkKey b 10000 kt (.string ⟨s.toArray⟩)).run P w = .ok () w := fun b => by
        have : ∀ d, (Instr.checkKey b (d + 1) kt (.string ⟨s.toArray⟩)).run P w = .ok () w := fun d => by simp [Instr.checkKey, run_underlying hk]
        exact this 9999
      rcases find_now (γ := γ) (w := w) (s := s) (kvs := kvs) (es := es.toList) (i := 0) (by simpa using hes) (fun j k v hj => by
        obtain ⟨en, a1, a2, _, _, _, a6⟩ := hent j k v hj
        exact ⟨en, by simpa using a1, a2, a6⟩) with ⟨f1, f2⟩ | ⟨j, v', en, f1, f2, f3, f4, f5⟩
      · have hf := run_findKey (P := P) (w := w) hk f2
        rw [f1]
        refine ok_pure hI (u := z) ?_ (repV_of (constB_rep hc))
        simp [execOp, ho, hx', hy', Instr.lookup, run_underlying ht, getObj, Sem.run, hh]
        simp [hchk, hf, zeroValue, typeInfo, hfi, hz]
      · have hf := run_findKey (P := P) (w := w) hk f4
        rw [f1]
        refine ok_pure hI (u := en.val) ?_ (repV_of f5)
        simp [execOp, ho, hx', hy', Instr.lookup, run_underlying ht, getObj, Sem.run, hh]
        simp [hchk, hf]
    · cases h
  · cases h

theorem sim_mup {t kt et : TypeId} {x y z : Operand} {s1 s2 s3 : S} (ho : o.op = .mapUpdate t x y z) (ht : P.underlying t = some (.map kt et)) (hk : P.underlying kt = some .string)
    (hx : RepV γ w (src e s1) (a.eval x)) (hy : RepV γ w (src e s2) (a.eval y)) (hz : RepV γ w (src e s3) (a.eval z)) (hI : Inv G N γ σ w) (h : evalOp (.mup s1 s2 s3) e σ = some (v, σ1)) : OpOk P G N γ σ w ((execOp a.eval o).run P w) v σ1 := by
  simp only [evalOp] at h
  split at h
  · rename_i i s e1 e2
    rw [e1] at hx
    rw [e2] at hy
    obtain ⟨hy', hsl⟩ := repC_str (repV_cell rfl hy)
    obtain ⟨blk, g', hO, hu⟩ := repC_mp (repV_cell rfl hx)
    split at h
    · rename_i kvs hkv
      split at h
      · rename_i hflat
        cases h
        have hzc : RepC γ w (src e s3) (a.eval z) := repV_cell (by revert hflat; cases src e s3 <;> simp [V.flatB, V.cellB]) hz
        obtain ⟨hg0, _, es, hh, hes, hent⟩ := hI.obj i _ _ hkv hO
        have hx' := hu hg0
        have hh : w.heap[blk]? = some (.map es kvs.length) := hh
        have hlt : blk < w.heap.size := (Array.getElem?_eq_some_iff.1 hh).1
        have hchk : ∀ b, (Instr.checkKey b 10000 kt (.string ⟨s.toArray⟩)).run P w = .ok () w := fun b => by
          have : ∀ d, (Instr.checkKey b (d + 1) kt (.string ⟨s.toArray⟩)).run P w = .ok () w := fun d => by simp [Instr.checkKey, run_underlying hk]
          exact this 9999
        have hset : ∀ ob, (setO w blk ob).heap.size = w.heap.size ∧ (∀ b, b ≠ blk → (setO w blk ob).heap[b]? = w.heap[b]?) ∧ (setO w blk ob).heap[blk]? = some ob := fun ob => by
          refine ⟨by simp [setO], fun b hb => by simp [setO, Array.getElem?_setIfInBounds, Ne.symm hb], by simp [setO, hlt]⟩
        rcases find_now (γ := γ) (w := w) (s := s) (kvs := kvs) (es := es.toList) (i := 0) (by simpa using hes) (fun j k v hj => by
          obtain ⟨en, a1, a2, _, _, _, a6⟩ := hent j k v hj
          exact ⟨en, by simpa using a1, a2, a6⟩) with ⟨f1, f2⟩ | ⟨j, v', en, f1, f2, f3, f4, f5⟩
        · have hf := run_findKey (P := P) (w := w) hk f2
          rw [f1]
          obtain ⟨q1, q2, q3⟩ := hset (.map (es.push { key := .string ⟨s.toArray⟩, val := a.eval z, born := kvs.length }) (kvs.length + 1))
          obtain ⟨i1, i2⟩ := hI.turnMap (kvs' := kvs ++ [(s, src e s3)]) (es' := es.push { key := .string ⟨s.toArray⟩, val := a.eval z, born := kvs.length }) hO hkv q1 q2 (by rw [q3]; simp) (by simp [hes]) (fun j k v hj => by
            by_cases hj2 : j < kvs.length
            · rw [List.getElem?_append_left hj2] at hj
              obtain ⟨en, a1, a2⟩ := hent j k v hj
              exact ⟨en, by rw [Array.getElem?_push_lt (by omega)]; simpa [show j < es.size by omega] using a1, a2⟩
            · rw [List.getElem?_append_right (by omega)] at hj
              have hj3 : j = kvs.length := by
                have := (List.getElem?_eq_some_iff.1 hj).1
                simp at this; omega
              subst hj3
              simp at hj
              obtain ⟨rfl, rfl⟩ := hj
              exact ⟨{ key := .string ⟨s.toArray⟩, val := a.eval z, born := kvs.length }, by rw [show kvs.length = es.size from hes.symm]; simp, rfl, hsl, rfl, hflat, hzc⟩)
          refine ⟨undef, _, γ, .inr ⟨?_, rfl⟩, .und, i1, i2, ⟨rfl, rfl, rfl, by rw [q1]; exact Nat.le_refl _, fun k hk => q2 k (by have := hI.low i _ hO; have : N ≤ blk := this; omega)⟩, fun _ _ => rfl⟩
          simp [execOp, ho, hx', hy', Instr.mapUpdate, run_underlying ht, getObj, Sem.run, hh]
          simp [hchk, hf, run_setObj _ hh]
        · have hf := run_findKey (P := P) (w := w) hk f4
          rw [f1]
          have hjl : j < kvs.length := (List.getElem?_eq_some_iff.1 f2).1
          obtain ⟨en0, b1, b2, b3, b4, b5, b6⟩ := hent j s v' f2
          have hen : en0 = en := by
            have : es.toList[j]? = some en0 := by simpa using b1
            rw [f3] at this
            cases this; rfl
          subst hen
          obtain ⟨q1, q2, q3⟩ := hset (.map (es.modify j fun en => { en with key := .string ⟨s.toArray⟩, val := a.eval z }) kvs.length)
          obtain ⟨i1, i2⟩ := hI.turnMap (kvs' := kvs.set j (s, src e s3)) (es' := es.modify j fun en => { en with key := .string ⟨s.toArray⟩, val := a.eval z }) hO hkv q1 q2 (by rw [q3]; simp) (by simp [hes]) (fun j' k v hj => by
            by_cases hjj : j = j'
            · subst hjj
              rw [List.getElem?_set_self hjl] at hj
              cases hj
              exact ⟨{ en0 with key := .string ⟨s.toArray⟩, val := a.eval z }, by simp [Array.getElem?_modify, b1], rfl, hsl, b4, hflat, hzc⟩
            · rw [List.getElem?_set_ne hjj] at hj
              obtain ⟨en, a1, a2⟩ := hent j' k v hj
              exact ⟨en, by simp [Array.getElem?_modify, hjj, a1], a2⟩)
          have f0 : 0 + j = j := Nat.zero_add j
          rw [f0] at hf
          simp only [f0]
          refine ⟨undef, _, γ, .inr ⟨?_, rfl⟩, .und, i1, i2, ⟨rfl, rfl, rfl, by rw [q1]; exact Nat.le_refl _, fun k hk => q2 k (by have := hI.low i _ hO; have : N ≤ blk := this; omega)⟩, fun _ _ => rfl⟩
          have hkts : (Instr.keyThatStays (((es[j]?).map (·.key)).getD (.string ⟨s.toArray⟩)) (.string ⟨s.toArray⟩)).run P w = .ok (.string ⟨s.toArray⟩) w := by
            rw [b1]
            have hsame : Instr.sameBits 10000 (.string ⟨s.toArray⟩) (.string ⟨s.toArray⟩) = true := by
              rw [Instr.sameBits]
              rw [beq_toListBytes]; simp
            simp [b2, Instr.keyThatStays, hsame]
          simp [execOp, ho, hx', hy', Instr.mapUpdate, run_underlying ht, getObj, Sem.run, hh]
          simp [hchk, hf, hkts, run_setObj _ hh]
      · cases h
    · cases h
  · cases h
end Go.Proofs.YtlehfgdhebapeaaDoor.KM
/- One check for all operations, and that memory follows. -/
namespace Go.Proofs.YtlehfgdhebapeaaDoor.KM
open Go Go.RowKit
variable {P : Program} {G : List (Nat × List V)} {N : Nat} {γ : Gh} {σ σ1 : St} {w : World} {e : Env} {a : Act} {o : Oper} {v : V}

/-! The check -/
def zeroOk (P : Program) (zs : List V) (t : TypeId) : Bool :=
  match P.info? t with
  | some i => match i.zero with
    | some z => constRow zs z.cells.toList
    | none => false
  | none => false
def sizeOk (P : Program) (t : TypeId) (n : Nat) : Bool := match P.info? t with
  | some i => i.size == n
  | none => false
theorem zeroOk_some {zs : List V} {t : TypeId} (h : zeroOk P zs t = true) : ∃ fi z, P.info? t = some fi ∧ fi.zero = some z ∧ constRow zs z.cells.toList = true := by
  unfold zeroOk at h
  split at h
  · rename_i fi hfi
    split at h
    · rename_i z hz
      exact ⟨fi, z, hfi, hz, h⟩
    · cases h
  · cases h
theorem sizeOk_some {t : TypeId} {n : Nat} (h : sizeOk P t n = true) : ∃ fi, P.info? t = some fi ∧ fi.size = n := by
  unfold sizeOk at h
  split at h
  · rename_i fi hfi
    exact ⟨fi, hfi, eq_of_beq h⟩
  · cases h
def okPs (G : List (Nat × List V)) (places : List (Nat × Nat)) : List (Nat × Nat × S) → List (Nat × Operand) → Bool
  | [], [] => true
  | p :: ps, q :: qs => (match places[q.1]? with
      | some (o, n) => o == p.1 && n == p.2.1
      | none => false) && (okS G p.2.2 q.2 && okPs G places ps qs)
  | _, _ => false
def okRs (G : List (Nat × List V)) : List (Nat × S) → List (Nat × Operand) → Bool
  | [], [] => true
  | p :: ps, q :: qs => p.1 == q.1 && (okS G p.2 q.2 && okRs G ps qs)
  | _, _ => false
theorem okPs_get {places : List (Nat × Nat)} : ∀ {ps : List (Nat × Nat × S)} {qs : List (Nat × Operand)}, okPs G places ps qs = true → ps.length = qs.length ∧ ∀ (i : Nat) (p : Nat × Nat × S) (q : Nat × Operand), ps[i]? = some p → qs[i]? = some q → places[q.1]? = some (p.1, p.2.1) ∧ okS G p.2.2 q.2 = true
  | [], [], _ => ⟨rfl, fun i p q h => by simp at h⟩
  | p :: ps, q :: qs, h => by
    simp only [okPs, Bool.and_eq_true] at h
    obtain ⟨h1, h2, h3⟩ := h
    obtain ⟨l, g⟩ := okPs_get h3
    refine ⟨by simp [l], fun i p' q' hp hq => ?_⟩
    cases i with
    | zero =>
      simp at hp hq
      subst hp hq
      split at h1
      · rename_i o n hpl
        simp only [Bool.and_eq_true, beq_iff_eq] at h1
        exact ⟨by rw [hpl, h1.1, h1.2], h2⟩
      · cases h1
    | succ i => exact g i p' q' (by simpa using hp) (by simpa using hq)
  | [], _ :: _, h => by simp [okPs] at h
  | _ :: _, [], h => by simp [okPs] at h
theorem okRs_get : ∀ {ps : List (Nat × S)} {qs : List (Nat × Operand)}, okRs G ps qs = true → ps.length = qs.length ∧ ∀ (i : Nat) (p : Nat × S) (q : Nat × Operand), ps[i]? = some p → qs[i]? = some q → p.1 = q.1 ∧ okS G p.2 q.2 = true
  | [], [], _ => ⟨rfl, fun i p q h => by simp at h⟩
  | p :: ps, q :: qs, h => by
    simp only [okRs, Bool.and_eq_true, beq_iff_eq] at h
    obtain ⟨h1, h2, h3⟩ := h
    obtain ⟨l, g⟩ := okRs_get h3
    refine ⟨by simp [l], fun i p' q' hp hq => ?_⟩
    cases i with
    | zero =>
      simp at hp hq
      subst hp hq
      exact ⟨h1, h2⟩
    | succ i => exact g i p' q' (by simpa using hp) (by simpa using hq)
  | [], _ :: _, h => by simp [okRs] at h
  | _ :: _, [], h => by simp [okRs] at h
def undIs (P : Program) (t : TypeId) (f : TypeDesc → Bool) : Bool := match P.underlying t with
  | some d => f d
  | none => false
theorem undIs_some {t : TypeId} {f : TypeDesc → Bool} (h : undIs P t f = true) : ∃ d, P.underlying t = some d ∧ f d = true := by
  unfold undIs at h
  split at h
  · exact ⟨_, by assumption, h⟩
  · cases h
def isStr : TypeDesc → Bool
  | .string => true
  | _ => false
def isInt (k : IntKind) : TypeDesc → Bool
  | .int k' => decide (k = k')
  | _ => false
def okPa (G : List (Nat × List V)) (m : Nat) : List (Nat × Nat × S) → List (Nat × Operand) → Bool
  | [], [] => true
  | p :: ps, q :: qs => q.1 * m == p.1 && (m == p.2.1 && (okS G p.2.2 q.2 && okPa G m ps qs))
  | _, _ => false
theorem okPa_get {m : Nat} : ∀ {ps : List (Nat × Nat × S)} {qs : List (Nat × Operand)}, okPa G m ps qs = true → ps.length = qs.length ∧ ∀ (i : Nat) (p : Nat × Nat × S) (q : Nat × Operand), ps[i]? = some p → qs[i]? = some q → (q.1 * m, m) = (p.1, p.2.1) ∧ okS G p.2.2 q.2 = true
  | [], [], _ => ⟨rfl, fun i p q h => by simp at h⟩
  | p :: ps, q :: qs, h => by
    simp only [okPa, Bool.and_eq_true, beq_iff_eq] at h
    obtain ⟨h1, h2, h3, h4⟩ := h
    obtain ⟨l, g⟩ := okPa_get h4
    refine ⟨by simp [l], fun i p' q' hp hq => ?_⟩
    cases i with
    | zero =>
      simp at hp hq
      subst hp hq
      exact ⟨by rw [h1, h2], h3⟩
    | succ i => exact g i p' q' (by simpa using hp) (by simpa using hq)
  | [], _ :: _, h => by simp [okPa] at h
  | _ :: _, [], h => by simp [okPa] at h
def okSs (G : List (Nat × List V)) : List S → List Operand → Bool
  | [], [] => true
  | s :: ss, x :: xs => okS G s x && okSs G ss xs
  | _, _ => false
theorem okSs_rep (hE : RepE γ w e a.tmps) (hI : Inv G N γ σ w) : ∀ {ss : List S} {xs : List Operand}, okSs G ss xs = true → ss.length = xs.length ∧ ∀ (i : Nat) s x, ss[i]? = some s → xs[i]? = some x → RepV γ w (src e s) (a.eval x)
  | [], [], _ => ⟨rfl, fun i s x h => by simp at h⟩
  | s :: ss, x :: xs, h => by
    simp only [okSs, Bool.and_eq_true] at h
    obtain ⟨l, g⟩ := okSs_rep hE hI h.2
    refine ⟨by simp [l], fun i s' x' hs hx => ?_⟩
    cases i with
    | zero => simp at hs hx; subst hs hx; exact okS_rep h.1 hE hI
    | succ i => exact g i s' x' (by simpa using hs) (by simpa using hx)
  | [], _ :: _, h => by simp [okSs] at h
  | _ :: _, [], h => by simp [okSs] at h
def okMap (P : Program) (f : TypeId → TypeId → Bool) : TypeDesc → Bool
  | .map k e => f k e
  | _ => false
def oneZero (P : Program) (z : V) (t : TypeId) : Bool := match P.info? t with
  | some i => match i.zero with
    | some u => constB z u
    | none => false
  | none => false
theorem oneZero_some {z : V} {t : TypeId} (h : oneZero P z t = true) : ∃ fi u, P.info? t = some fi ∧ fi.zero = some u ∧ constB z u = true := by
  unfold oneZero at h
  split at h
  · rename_i fi hfi
    split at h
    · rename_i u hu
      exact ⟨fi, u, hfi, hu, h⟩
    · cases h
  · cases h
def okBuild (P : Program) (G : List (Nat × List V)) (zs : List V) (ps : List (Nat × Nat × S)) (t : TypeId) (parts : List (Nat × Operand)) : TypeDesc → Bool
  | .struct fs => match fs.toList.mapM (fun f => (P.info? f.type).map fun i => (f.offset, i.size)) with
    | some places => okPs G places ps parts
    | none => false
  | .array _ el => match P.info? el with
    | some fe => okPa G fe.size ps parts
    | none => false
  | _ => false
def okFad (P : Program) (off i : Nat) : TypeDesc → Bool
  | .struct fs => match fs[i]? with
    | some f => f.offset == off && (match P.info? f.type with
      | some fi => fi.size != 0
      | none => false)
    | none => false
  | _ => false
def okFld (P : Program) (off n : Nat) (one : Bool) (i : Nat) : TypeDesc → Bool
  | .struct fs => match fs[i]? with
    | some f => f.offset == off && (sizeOk P f.type n && undIs P f.type (fun d => aggB d == !one))
    | none => false
  | _ => false
def okIda (P : Program) (len m : Nat) (one : Bool) : TypeDesc → Bool
  | .array len' el => len == len' && (sizeOk P el m && undIs P el (fun d => aggB d == !one))
  | _ => false
def okSl (P : Program) (f : TypeId → Bool) : TypeDesc → Bool
  | .slice el => f el
  | _ => false
def okEl (P : Program) (bytes m : Nat) (el : TypeId) : Bool := match P.info? el with
  | some fi => fi.size == m && (fi.bytes == bytes && (decide (0 < m) && (decide (0 < bytes) && (match fi.zero with
    | some z => z.cells.size == m
    | none => false))))
  | none => false

def okOp (P : Program) (G : List (Nat × List V)) (ao : AO) (op : Op) : Bool :=
  match ao, op with
  | .mov s, .move x => okS G s x
  | .mov s, .assign x => okS G s x
  | .pick s1 s2 s3, .pick x y z => okS G s1 x && (okS G s2 y && okS G s3 z)
  | .new t' zs, .alloc t => t' == t && zeroOk P zs t
  | .box t' s, .box t x => t' == t && okS G s x
  | .build zs ps, .build t parts => zeroOk P zs t && undIs P t (okBuild P G zs ps t parts.toList)
  | .rows n zs ps, .buildSlice t n' parts => n == n' && (undIs P t (okSl P fun el => zeroOk P zs el && sizeOk P el zs.length) && (decide (0 < zs.length) && (decide (n * zs.length ≤ 16777216) && okRs G ps parts.toList)))
  | .rowf n zs ps, .buildSlice t n' parts => n == n' && (undIs P t (okSl P fun el => zeroOk P zs el && sizeOk P el zs.length) && (decide (0 < zs.length) && (decide (n * zs.length ≤ 16777216) && okRs G ps parts.toList)))
  | .rowo el' n zs ps, .buildSlice t n' parts => n == n' && (undIs P t (okSl P fun el => el' == el && (zeroOk P zs el && sizeOk P el zs.length)) && (decide (0 < zs.length) && (decide (n * zs.length ≤ 16777216) && okRs G ps parts.toList)))
  | .mk el' bytes zs s1 s2, .makeSlice t x y => okS G s1 x && (okS G s2 y && (decide (0 < zs.length) && undIs P t (okSl P fun el => el' == el && (zeroOk P zs el && (sizeOk P el zs.length && (match P.info? el with
    | some fi => fi.bytes == bytes && decide (0 < bytes)
    | none => false))))))
  | .load n one s, .load t x => okS G s x && (sizeOk P t n && undIs P t (fun d => aggB d == !one))
  | .store n s1 s2, .store t x y => okS G s1 x && (okS G s2 y && sizeOk P t n)
  | .chk s, .nilCheck x => okS G s x
  | .bin b s1 s2, .binOp b' _ x y _ => decide (b = b') && (okS G s1 x && okS G s2 y)
  | .eq k neg s1 s2, .binOp b' t x y _ => decide (b' = (if neg then BinOp.neq else BinOp.eql)) && (okEq P k t x y && (okS G s1 x && okS G s2 y))
  | .un b s, .unOp b' _ x => decide (b = b') && okS G s x
  | .cvi k s, .convert t1 t2 x => okS G s x && ((P.underlying t1).isSome && undIs P t2 (isInt k))
  | .cvs s, .convert t1 t2 x => okS G s x && ((P.underlying t1).isSome && undIs P t2 isStr)
  | .cvl s, .convert t1 t2 x => t1 == t2 && (okS G s x && undIs P t1 (okSl P fun el => undIs P el (isInt .u8)))
  | .bts s, .convert t1 t2 x => okS G s x && (undIs P t2 isStr && undIs P t1 (okSl P fun el => undIs P el (isInt .u8)))
  | .stb el' s, .convert t1 t2 x => okS G s x && (undIs P t1 isStr && undIs P t2 (okSl P fun el => el' == el && undIs P el (isInt .u8)))
  | .sap n s, .sliceToArrayPointer t x => okS G s x && undIs P t (fun d => match d with
    | .array l _ => l == n
    | _ => false)
  | .slcs s lo hi, .slice t x lo' hi' mx => mx.isNone && (okS G s x && (okSo G lo lo' && (okSo G hi hi' && undIs P t isStr)))
  | .slc m s lo hi mx, .slice t x lo' hi' mx' => okS G s x && (okSo G lo lo' && (okSo G hi hi' && (okSo G mx mx' && ((!mx.isSome || hi.isSome) && (m != 0 && undIs P t (okSl P fun el => sizeOk P el m))))))
  | .slca len m s lo hi, .slice t x lo' hi' mx => mx.isNone && (okS G s x && (okSo G lo lo' && (okSo G hi hi' && (decide (len ≤ 16777216) && undIs P t (fun d => match d with
    | .array l el => l == len && sizeOk P el m
    | _ => false)))))
  | .mkf f as cs, .makeFunc (.func f') first captured => f == f' && (okSs G as first.toList && okSs G cs captured.toList)
  | .mmk, .makeMap _ none => true
  | .mlk z s1 s2, .lookup t x y false => okS G s1 x && (okS G s2 y && undIs P t (okMap P fun k el => undIs P k isStr && oneZero P z el))
  | .mup s1 s2 s3, .mapUpdate t x y z => okS G s1 x && (okS G s2 y && (okS G s3 z && undIs P t (okMap P fun k _ => undIs P k isStr)))
  | .fld off n one s, .field t x i => okS G s x && undIs P t (okFld P off n one i)
  | .ida len m one s1 s2, .index t x y => okS G s1 x && (okS G s2 y && undIs P t (okIda P len m one))
  | .fad off s, .fieldAddr t x i => okS G s x && undIs P t (okFad P off i)
  | .iad m s1 s2, .indexAddr t x y => okS G s1 x && (okS G s2 y && undIs P t (okSl P fun el => sizeOk P el m))
  | .iar len m s1 s2, .indexAddr t x y => okS G s1 x && (okS G s2 y && undIs P t (fun d => match d with
    | .array l el => l == len && sizeOk P el m
    | _ => false))
  | .idx s1 s2, .index t x y => okS G s1 x && (okS G s2 y && undIs P t isStr)
  | .ext i s, .extract x i' => i == i' && okS G s x
  | .len s, .call { callee := .builtin .len, args, argTypes } => match args.toList, argTypes.toList with
    | [x], [t] => okS G s x && undIs P t (okSl P fun _ => true)
    | _, _ => false
  | .lens s, .call { callee := .builtin .len, args, argTypes } => match args.toList, argTypes.toList with
    | [x], [t] => okS G s x && undIs P t isStr
    | _, _ => false
  | .app bytes m s1 s2, .call { callee := .builtin .append, args, argTypes } => match args.toList, argTypes.toList with
    | [x, y], [t, u] => t == u && (okS G s1 x && (okS G s2 y && undIs P t (okSl P fun el => el == m.2 && okEl P bytes m.1 el)))
    | _, _ => false
  | .apps ty s1 s2, .call { callee := .builtin .append, args, argTypes } => match args.toList, argTypes.toList with
    | [x, y], [t, u] => okS G s1 x && (okS G s2 y && (undIs P t (okSl P fun el => el == ty && okEl P 1 1 el) && undIs P u isStr))
    | _, _ => false
  | .mx s1 s2, .call { callee := .builtin .max, args, .. } => match args.toList with
    | [x, y] => okS G s1 x && okS G s2 y
    | _ => false
  | .mn s1 s2, .call { callee := .builtin .min, args, .. } => match args.toList with
    | [x, y] => okS G s1 x && okS G s2 y
    | _ => false
  | _, _ => false

theorem arr_of {α : Type} {xs : Array α} {l : List α} (h : xs.toList = l) : xs = l.toArray := by subst h; simp
theorem okEl_some {bytes m : Nat} {el : TypeId} (h : okEl P bytes m el = true) : ∃ fi z, P.info? el = some fi ∧ fi.size = m ∧ fi.bytes = bytes ∧ 0 < m ∧ 0 < bytes ∧ fi.zero = some z ∧ z.cells.size = m := by
  unfold okEl at h
  split at h
  · rename_i fi hfi
    simp only [Bool.and_eq_true, beq_iff_eq, decide_eq_true_eq] at h
    obtain ⟨h1, h2, h3, h4, h5⟩ := h
    split at h5
    · rename_i z hz
      exact ⟨fi, z, hfi, h1, h2, h3, h4, hz, eq_of_beq h5⟩
    · cases h5
  · cases h

theorem opSim {ao : AO} (hok : okOp P G ao o.op = true) (hE : RepE γ w e a.tmps) (hI : Inv G N γ σ w) (h : evalOp ao e σ = some (v, σ1)) : OpOk P G N γ σ w ((execOp a.eval o).run P w) v σ1 := by
  have R := fun {s : S} {x : Operand} (h : okS G s x = true) => okS_rep (a := a) h hE hI
  generalize ho : o.op = op at hok
  unfold okOp at hok
  split at hok
  · -- move
    simp only [evalOp] at h; cases h
    exact ok_pure hI (by simp [execOp, ho]) (R hok)
  · simp only [evalOp] at h; cases h
    exact ok_pure hI (by simp [execOp, ho]) (R hok)
  · simp only [Bool.and_eq_true] at hok
    exact sim_pick ho (R hok.1) (R hok.2.1) (R hok.2.2) hI h
  · simp only [Bool.and_eq_true, beq_iff_eq] at hok
    obtain ⟨rfl, hok⟩ := hok
    obtain ⟨fi, z, h1, h2, h3⟩ := zeroOk_some hok
    exact sim_new ho h1 h2 h3 hI h
  · simp only [Bool.and_eq_true, beq_iff_eq] at hok
    obtain ⟨rfl, hok⟩ := hok
    exact sim_box ho (R hok) hI h
  · simp only [Bool.and_eq_true] at hok
    obtain ⟨fi, z, h1, h2, h3⟩ := zeroOk_some hok.1
    obtain ⟨d, hd, hb⟩ := undIs_some hok.2
    unfold okBuild at hb
    split at hb
    · split at hb
      · rename_i places hpl
        obtain ⟨l, g⟩ := okPs_get hb
        exact sim_build ho hd h1 h2 h3 hpl (by simpa using l) (fun i p q hp hq => by
          obtain ⟨g1, g2⟩ := g i p q hp (by simpa using hq)
          exact ⟨g1, R g2⟩) hI h
      · cases hb
    · split at hb
      · rename_i fe hfe
        obtain ⟨l, g⟩ := okPa_get hb
        exact sim_builda ho hd h1 h2 h3 hfe (by simpa using l) (fun i p q hp hq => by
          obtain ⟨g1, g2⟩ := g i p q hp (by simpa using hq)
          exact ⟨g1, R g2⟩) hI h
      · cases hb
    · cases hb
  · simp only [Bool.and_eq_true, beq_iff_eq, decide_eq_true_eq] at hok
    obtain ⟨rfl, hd, hm, hb, hr⟩ := hok
    obtain ⟨d, hd, hs⟩ := undIs_some hd
    unfold okSl at hs
    split at hs
    · simp only [Bool.and_eq_true] at hs
      obtain ⟨fi, z, h1, h2, h3⟩ := zeroOk_some hs.1
      obtain ⟨fi', h1', h4⟩ := sizeOk_some hs.2
      rw [h1] at h1'; cases h1'
      obtain ⟨l, g⟩ := okRs_get hr
      exact sim_rows ho hd h1 h2 h3 h4 hm hb (by simpa using l) (fun i p q hp hq => by
        obtain ⟨g1, g2⟩ := g i p q hp (by simpa using hq)
        exact ⟨g1, R g2⟩) hI h
    · cases hs
  · simp only [Bool.and_eq_true, beq_iff_eq, decide_eq_true_eq] at hok
    obtain ⟨rfl, hd, hm, hb, hr⟩ := hok
    obtain ⟨d, hd, hs⟩ := undIs_some hd
    unfold okSl at hs
    split at hs
    · simp only [Bool.and_eq_true] at hs
      obtain ⟨fi, z, h1, h2, h3⟩ := zeroOk_some hs.1
      obtain ⟨fi', h1', h4⟩ := sizeOk_some hs.2
      rw [h1] at h1'; cases h1'
      obtain ⟨l, g⟩ := okRs_get hr
      exact sim_rowf ho hd h1 h2 h3 h4 hm hb (by simpa using l) (fun i p q hp hq => by
        obtain ⟨g1, g2⟩ := g i p q hp (by simpa using hq)
        exact ⟨g1, R g2⟩) hI h
    · cases hs
  · simp only [Bool.and_eq_true, beq_iff_eq, decide_eq_true_eq] at hok
    obtain ⟨rfl, hd, hm, hb, hr⟩ := hok
    obtain ⟨d, hd, hs⟩ := undIs_some hd
    unfold okSl at hs
    split at hs
    · simp only [Bool.and_eq_true, beq_iff_eq] at hs
      obtain ⟨rfl, hs1, hs2⟩ := hs
      obtain ⟨fi, z, h1, h2, h3⟩ := zeroOk_some hs1
      obtain ⟨fi', h1', h4⟩ := sizeOk_some hs2
      rw [h1] at h1'; cases h1'
      obtain ⟨l, g⟩ := okRs_get hr
      exact sim_rowo ho hd h1 h2 h3 h4 hm hb (by simpa using l) (fun i p q hp hq => by
        obtain ⟨g1, g2⟩ := g i p q hp (by simpa using hq)
        exact ⟨g1, R g2⟩) hI h
    · cases hs
  · simp only [Bool.and_eq_true, beq_iff_eq, decide_eq_true_eq] at hok
    obtain ⟨k1, k2, hm, hd0⟩ := hok
    obtain ⟨d, hd, hs⟩ := undIs_some hd0
    clear hd0
    unfold okSl at hs
    split at hs
    · simp only [Bool.and_eq_true, beq_iff_eq] at hs
      obtain ⟨rfl, hs1, hs2, hs3⟩ := hs
      obtain ⟨fi, z, h1, h2, h3⟩ := zeroOk_some hs1
      obtain ⟨fi', h1', h4⟩ := sizeOk_some hs2
      rw [h1] at h1' hs3; cases h1'
      simp only [Bool.and_eq_true, beq_iff_eq, decide_eq_true_eq] at hs3
      obtain ⟨rfl, hby⟩ := hs3
      exact sim_mk ho hd h1 h2 h3 h4 hm hby (R k1) (R k2) hI h
    · cases hs
  · simp only [Bool.and_eq_true] at hok
    obtain ⟨fi, h1, h2⟩ := sizeOk_some hok.2.1
    obtain ⟨d, hd, hs⟩ := undIs_some hok.2.2
    exact sim_load ho hd (eq_of_beq hs) h1 h2 (R hok.1) hI h
  · simp only [Bool.and_eq_true] at hok
    obtain ⟨fi, h1, h2⟩ := sizeOk_some hok.2.2
    exact sim_store ho h1 h2 (R hok.1) (R hok.2.1) hI h
  · exact sim_chk ho (R hok) hI h
  · simp only [Bool.and_eq_true, decide_eq_true_eq] at hok
    obtain ⟨rfl, h1, h2⟩ := hok
    simp only [evalOp, Option.map_eq_some_iff] at h
    obtain ⟨v', h, h3⟩ := h
    cases h3
    exact sim_bin ho (R h1) (R h2) hI h
  · simp only [Bool.and_eq_true, decide_eq_true_eq] at hok
    obtain ⟨rfl, h1, h2, h3⟩ := hok
    exact sim_eq ho h1 (R h2) (R h3) hI h
  · simp only [Bool.and_eq_true, decide_eq_true_eq] at hok
    obtain ⟨rfl, h1⟩ := hok
    exact sim_un ho (R h1) hI h
  · simp only [Bool.and_eq_true] at hok
    obtain ⟨h1, h2, h3⟩ := hok
    obtain ⟨d1, hd1⟩ := Option.isSome_iff_exists.1 h2
    obtain ⟨d, hd, hs⟩ := undIs_some h3
    unfold isInt at hs
    split at hs
    · obtain rfl := of_decide_eq_true hs
      exact sim_cvi ho hd1 hd (R h1) hI h
    · cases hs
  · simp only [Bool.and_eq_true] at hok
    obtain ⟨h1, h2, h3⟩ := hok
    obtain ⟨d1, hd1⟩ := Option.isSome_iff_exists.1 h2
    obtain ⟨d, hd, hs⟩ := undIs_some h3
    unfold isStr at hs
    split at hs
    · exact sim_cvs ho hd1 hd (R h1) hI h
    · cases hs
  · simp only [Bool.and_eq_true, beq_iff_eq] at hok
    obtain ⟨rfl, h1, h2⟩ := hok
    obtain ⟨d, hd, hs⟩ := undIs_some h2
    unfold okSl at hs
    split at hs
    · obtain ⟨d2, hd2, hs2⟩ := undIs_some hs
      unfold isInt at hs2
      split at hs2
      · obtain rfl := of_decide_eq_true hs2
        exact sim_cvl ho hd hd2 (R h1) hI h
      · cases hs2
    · cases hs
  · simp only [Bool.and_eq_true] at hok
    obtain ⟨h1, h2, h3⟩ := hok
    obtain ⟨d0, hd0, hs0⟩ := undIs_some h2
    obtain ⟨d, hd, hs⟩ := undIs_some h3
    unfold isStr at hs0
    split at hs0
    · unfold okSl at hs
      split at hs
      · obtain ⟨d2, hd2, hs2⟩ := undIs_some hs
        unfold isInt at hs2
        split at hs2
        · obtain rfl := of_decide_eq_true hs2
          exact sim_bts ho hd hd2 hd0 (R h1) hI h
        · cases hs2
      · cases hs
    · cases hs0
  · simp only [Bool.and_eq_true] at hok
    obtain ⟨h1, h2, h3⟩ := hok
    obtain ⟨d0, hd0, hs0⟩ := undIs_some h2
    obtain ⟨d, hd, hs⟩ := undIs_some h3
    unfold isStr at hs0
    split at hs0
    · unfold okSl at hs
      split at hs
      · simp only [Bool.and_eq_true, beq_iff_eq] at hs
        obtain ⟨rfl, hs⟩ := hs
        obtain ⟨d2, hd2, hs2⟩ := undIs_some hs
        unfold isInt at hs2
        split at hs2
        · obtain rfl := of_decide_eq_true hs2
          exact sim_stb ho hd0 hd hd2 (R h1) hI h
        · cases hs2
      · cases hs
    · cases hs0
  · simp only [Bool.and_eq_true] at hok
    obtain ⟨h1, h2⟩ := hok
    obtain ⟨d, hd, hs⟩ := undIs_some h2
    split at hs
    · obtain rfl := eq_of_beq hs
      exact sim_sap ho hd (R h1) hI h
    · cases hs
  · simp only [Bool.and_eq_true, Option.isNone_iff_eq_none] at hok
    obtain ⟨rfl, h1, h2, h3, h4⟩ := hok
    obtain ⟨d, hd, hs⟩ := undIs_some h4
    unfold isStr at hs
    split at hs
    · exact sim_slcs ho hd h2 h3 (R h1) hE hI h
    · cases hs
  · simp only [Bool.and_eq_true, Bool.or_eq_true, Bool.not_eq_true'] at hok
    obtain ⟨h1, h2, h3, h4, h5, h7, h6⟩ := hok
    obtain ⟨d, hd, hs⟩ := undIs_some h6
    unfold okSl at hs
    split at hs
    · obtain ⟨fi, g1, g2⟩ := sizeOk_some hs
      subst g2
      exact sim_slc ho hd g1 h2 h3 h4 (fun h => by rcases h5 with h5 | h5 <;> simp_all) (by simpa using h7) (R h1) hE hI h
    · cases hs
  · simp only [Bool.and_eq_true, Option.isNone_iff_eq_none, decide_eq_true_eq] at hok
    obtain ⟨rfl, h1, h2, h3, h4, h5⟩ := hok
    obtain ⟨d, hd, hs⟩ := undIs_some h5
    split at hs
    · simp only [Bool.and_eq_true, beq_iff_eq] at hs
      obtain ⟨rfl, hs⟩ := hs
      obtain ⟨fi, g1, g2⟩ := sizeOk_some hs
      subst g2
      exact sim_slca ho hd g1 h2 h3 (by unfold maxLen; omega) (R h1) hE hI h
    · cases hs
  · simp only [Bool.and_eq_true, beq_iff_eq] at hok
    obtain ⟨rfl, h1, h2⟩ := hok
    exact sim_mkf ho (okSs_rep hE hI h1) (okSs_rep hE hI h2) hI h
  · exact sim_mmk ho hI h
  · simp only [Bool.and_eq_true] at hok
    obtain ⟨h1, h2, h3⟩ := hok
    obtain ⟨d, hd, hs⟩ := undIs_some h3
    unfold okMap at hs
    split at hs
    · simp only [Bool.and_eq_true] at hs
      obtain ⟨d2, hd2, hs2⟩ := undIs_some hs.1
      unfold isStr at hs2
      split at hs2
      · obtain ⟨fi, u, g1, g2, g3⟩ := oneZero_some hs.2
        exact sim_mlk ho hd hd2 g1 g2 g3 (R h1) (R h2) hI h
      · cases hs2
    · cases hs
  · simp only [Bool.and_eq_true] at hok
    obtain ⟨h1, h2, h3, h4⟩ := hok
    obtain ⟨d, hd, hs⟩ := undIs_some h4
    unfold okMap at hs
    split at hs
    · obtain ⟨d2, hd2, hs2⟩ := undIs_some hs
      unfold isStr at hs2
      split at hs2
      · exact sim_mup ho hd hd2 (R h1) (R h2) (R h3) hI h
      · cases hs2
    · cases hs
  · simp only [Bool.and_eq_true] at hok
    obtain ⟨d, hd, hs⟩ := undIs_some hok.2
    unfold okFld at hs
    split at hs
    · split at hs
      · rename_i f hf
        simp only [Bool.and_eq_true, beq_iff_eq] at hs
        obtain ⟨fi, g1, g2⟩ := sizeOk_some hs.2.1
        obtain ⟨d2, hd2, hs2⟩ := undIs_some hs.2.2
        exact sim_fld ho hd hf hs.1 hd2 (eq_of_beq hs2) g1 g2 (R hok.1) hI h
      · cases hs
    · cases hs
  · simp only [Bool.and_eq_true] at hok
    obtain ⟨d, hd, hs⟩ := undIs_some hok.2.2
    unfold okIda at hs
    split at hs
    · simp only [Bool.and_eq_true, beq_iff_eq] at hs
      obtain ⟨rfl, hs⟩ := hs
      obtain ⟨fi, g1, g2⟩ := sizeOk_some hs.1
      obtain ⟨d2, hd2, hs2⟩ := undIs_some hs.2
      exact sim_ida ho hd hd2 (eq_of_beq hs2) g1 g2 (R hok.1) (R hok.2.1) hI h
    · cases hs
  · simp only [Bool.and_eq_true] at hok
    obtain ⟨h1, h2⟩ := hok
    obtain ⟨d, hd, hs⟩ := undIs_some h2
    unfold okFad at hs
    split at hs
    · split at hs
      · rename_i f hf
        simp only [Bool.and_eq_true, beq_iff_eq] at hs
        obtain ⟨g1, g2⟩ := hs
        split at g2
        · rename_i fi hfi
          exact sim_fad ho hd hf g1 hfi (by simpa using g2) (R h1) hI h
        · cases g2
      · cases hs
    · cases hs
  · simp only [Bool.and_eq_true] at hok
    obtain ⟨h1, h2, h3⟩ := hok
    obtain ⟨d, hd, hs⟩ := undIs_some h3
    unfold okSl at hs
    split at hs
    · obtain ⟨fi, g1, g2⟩ := sizeOk_some hs
      exact sim_iad ho hd g1 g2 (R h1) (R h2) hI h
    · cases hs
  · simp only [Bool.and_eq_true] at hok
    obtain ⟨h1, h2, h3⟩ := hok
    obtain ⟨d, hd, hs⟩ := undIs_some h3
    split at hs
    · simp only [Bool.and_eq_true, beq_iff_eq] at hs
      obtain ⟨rfl, hs⟩ := hs
      obtain ⟨fi, g1, g2⟩ := sizeOk_some hs
      exact sim_iar ho hd g1 g2 (R h1) (R h2) hI h
    · cases hs
  · simp only [Bool.and_eq_true] at hok
    obtain ⟨h1, h2, h3⟩ := hok
    obtain ⟨d, hd, hs⟩ := undIs_some h3
    unfold isStr at hs
    split at hs
    · exact sim_idx ho hd (R h1) (R h2) hI h
    · cases hs
  · simp only [Bool.and_eq_true, beq_iff_eq] at hok
    obtain ⟨rfl, h1⟩ := hok
    exact sim_ext ho (R h1) hI h
  · split at hok
    · rename_i x t e1 e2
      rw [arr_of e1, arr_of e2] at ho
      simp only [Bool.and_eq_true] at hok
      obtain ⟨d, hd, hs⟩ := undIs_some hok.2
      unfold okSl at hs
      split at hs
      · exact sim_len ho hd (R hok.1) hI h
      · cases hs
    · cases hok
  · split at hok
    · rename_i x t e1 e2
      rw [arr_of e1, arr_of e2] at ho
      simp only [Bool.and_eq_true] at hok
      obtain ⟨d, hd, hs⟩ := undIs_some hok.2
      unfold isStr at hs
      split at hs
      · exact sim_lens ho hd (R hok.1) hI h
      · cases hs
    · cases hok
  · split at hok
    · rename_i x y t u e1 e2
      simp only [Bool.and_eq_true, beq_iff_eq] at hok
      obtain ⟨rfl, h1, h2, h3⟩ := hok
      rw [arr_of e1, arr_of e2] at ho
      obtain ⟨d, hd, hs⟩ := undIs_some h3
      unfold okSl at hs
      split at hs
      · simp only [Bool.and_eq_true, beq_iff_eq] at hs
        obtain ⟨g0, hs⟩ := hs
        obtain ⟨fi, z, g1, g2, g3, g4, g5, g6, g7⟩ := okEl_some hs
        rename_i el
        have em : (fi.size, el) = _ := Prod.ext g2 g0
        rw [← em, ← g3] at h
        rw [← g2] at g4 g7
        rw [← g3] at g5
        exact sim_app ho hd g1 g6 g7 g4 g5 (R h1) (R h2) hI h
      · cases hs
    · cases hok
  · split at hok
    · rename_i x y t u e1 e2
      simp only [Bool.and_eq_true] at hok
      obtain ⟨h1, h2, h3, h4⟩ := hok
      rw [arr_of e1, arr_of e2] at ho
      obtain ⟨d, hd, hs⟩ := undIs_some h3
      obtain ⟨d2, hd2, hs2⟩ := undIs_some h4
      unfold okSl at hs
      split at hs
      · unfold isStr at hs2
        split at hs2
        · simp only [Bool.and_eq_true, beq_iff_eq] at hs
          obtain ⟨g0, hs⟩ := hs
          obtain ⟨fi, z, g1, g2, g3, g4, g5, g6, g7⟩ := okEl_some hs
          rw [← g0] at h
          exact sim_apps ho hd hd2 g1 g6 g7 g2 g3 (R h1) (R h2) hI h
        · cases hs2
      · cases hs
    · cases hok
  · split at hok
    · rename_i x y e1
      rw [arr_of e1] at ho
      simp only [Bool.and_eq_true] at hok
      exact sim_mx ho (R hok.1) (R hok.2) hI h
    · cases hok
  · split at hok
    · rename_i x y e1
      rw [arr_of e1] at ho
      simp only [Bool.and_eq_true] at hok
      exact sim_mn ho (R hok.1) (R hok.2) hI h
    · cases hok
  · cases hok
end Go.Proofs.YtlehfgdhebapeaaDoor.KM
/- Code of the plain machine against the program's code: the check. -/
namespace Go.Proofs.YtlehfgdhebapeaaDoor.KM
open Go Go.RowKit

def okCall (P : Program) (G : List (Nat × List V)) (f : Nat) (xs : List S) (op : Op) : Bool :=
  match op with
  | .call { callee := .value (.func f'), args, .. } => f == f' && okSs G xs args.toList
  | _ => false
def okCallv (P : Program) (G : List (Nat × List V)) (s : S) (xs : List S) (op : Op) : Bool :=
  match op with
  | .call { callee := .value x, args, .. } => okS G s x && okSs G xs args.toList
  | _ => false
def okG (n : Nat) (ops : Array Oper) (g : Option (Nat × Bool)) (g' : Option (Nat × Bool)) : Bool :=
  match g, g' with
  | none, none => true
  | some (t, b), some (j, b') => b == b' && ((ops[j]?).bind (·.dst) == some t && decide (t < n))
  | _, _ => false
def okAI (P : Program) (G : List (Nat × List V)) (n : Nat) (ops : Array Oper) (i : AI) (o : Oper) : Bool :=
  i.dst == o.dst && ((match i.dst with
    | some d => decide (d < n)
    | none => true) && (okG n ops i.g o.guard && (match i.op with
    | .call f xs => okCall P G f xs o.op
    | .callv s xs => okCallv P G s xs o.op
    | ao => okOp P G ao o.op)))
def okOps (P : Program) (G : List (Nat × List V)) (n : Nat) (ops : Array Oper) : List AI → List Oper → Bool
  | [], [] => true
  | i :: is, o :: os => okAI P G n ops i o && okOps P G n ops is os
  | _, _ => false
def depOk (d : List Nat) (o : Oper) : Bool := (o.after.toList.all fun e => !Region.binds .any e || d.elem e.on) && d.all fun j => o.after.toList.any fun e => Region.binds .any e && e.on == j
def depsOk : List (List Nat) → List Oper → Bool
  | [], [] => true
  | d :: ds, o :: os => depOk d o && depsOk ds os
  | _, _ => false
def okC (P : Program) (G : List (Nat × List V)) (n : Nat) : AC → Code → Bool
  | .skip, .skip => true
  | .reg _ ais, .region _ ops false => okOps P G n ops ais ops.toList
  | .drw _ deps ais, .region _ ops true => okOps P G n ops ais ops.toList && (depsOk deps ops.toList && P.follows .mixedOrders)
  | .seq x y, .seq c d => okC P G n x c && okC P G n y d
  | .cond s _ x y, .cond c x' y' => okS G s c && (okC P G n x x' && okC P G n y y')
  | .blk i c, .block j c' => i == j && okC P G n c c'
  | .loop _ c, .loop c' => okC P G n c c'
  | .exit i, .exit j => i == j
  | .ret, .ret => true
  | _, _ => false
def okR (P : Program) (n : Nat) : AR → ResultVar → Bool
  | .tmp t, .tmp t' => t == t' && decide (t < n)
  | .cell t k one, .cell t' ty => t == t' && (sizeOk P ty k && undIs P ty fun d => aggB d == !one)
  | _, _ => false
def okRs2 (P : Program) (n : Nat) : List AR → List ResultVar → Bool
  | [], [] => true
  | r :: rs, q :: qs => okR P n r q && okRs2 P n rs qs
  | _, _ => false
/-- a function of the plain machine stands for one of the program -/
def okF (P : Program) (G : List (Nat × List V)) (f : Nat) (F : AF) : Bool :=
  match P.funcs[f]? with
  | some fn => match fn.body with
    | some c => okC P G fn.ntmps F.body c && (okRs2 P fn.ntmps F.res fn.results.toList && (decide (F.pars ≤ fn.ntmps) && fn.name != "runtime.NumGoroutine"))
    | none => false
  | none => false

/-! orders -/
theorem dep_eq {d : List Nat} {o : Oper} (h : depOk d o = true) (listed : Nat → Bool) : (o.after.all fun e => !Region.binds .any e || listed e.on) = d.all listed := by
  simp only [depOk, Bool.and_eq_true, List.all_eq_true, List.any_eq_true, Bool.or_eq_true, Bool.not_eq_true', List.elem_iff, beq_iff_eq] at h
  rw [Bool.eq_iff_iff, Array.all_eq_true', List.all_eq_true]
  constructor
  · intro ha j hj
    obtain ⟨e, he, hb, rfl⟩ := h.2 j hj
    have := ha e (by simpa using he)
    simpa [hb] using this
  · intro hd e he
    rcases h.1 e (by simpa using he) with h' | h'
    · simp [h']
    · simp [hd e.on h']
theorem deps_get : ∀ {deps : List (List Nat)} {os : List Oper}, depsOk deps os = true → deps.length = os.length ∧ ∀ i o, os[i]? = some o → depOk (deps.getD i []) o = true
  | [], [], _ => ⟨rfl, fun i o h => by simp at h⟩
  | d :: ds, o :: os, h => by
    simp only [depsOk, Bool.and_eq_true] at h
    obtain ⟨l, g⟩ := deps_get h.2
    refine ⟨by simp [l], fun i o' ho => ?_⟩
    cases i with
    | zero => simp at ho; subst ho; simpa using h.1
    | succ i => simpa using g i o' (by simpa using ho)
  | [], _ :: _, h => by simp [depsOk] at h
  | _ :: _, [], h => by simp [depsOk] at h
theorem lin_go {deps : List (List Nat)} {ops : Array Oper} (hd : depsOk deps ops.toList = true) : ∀ (fuel t : Nat) (listed : Array Bool) (acc : List Nat), listed.size = ops.size → (∀ i, i < ops.size → listed.getD i true = acc.elem i) → (∀ i, listed.getD i false = true → acc.elem i = true) → (∀ i, acc.elem i = true → i < ops.size) →
    Region.linearise.go .any ops fuel t listed acc = linGo deps fuel t acc
  | 0, _, _, _, _, _, _, _ => rfl
  | fuel + 1, t, listed, acc, hs, h1, h2, h3 => by
    obtain ⟨hl, hg⟩ := deps_get hd
    have hlen : deps.length = ops.size := by simpa using hl
    have hfil : (List.range ops.size).filter (fun i => !listed.getD i true && ((ops[i]?).map (·.after.all fun e => !Region.binds .any e || listed.getD e.on false)).getD false) = (List.range deps.length).filter (readyB deps acc) := by
      rw [hlen]
      apply List.filter_congr
      intro i hi
      have hi' : i < ops.size := by simpa using hi
      have ho : ops[i]? = some ops[i] := Array.getElem?_eq_getElem hi'
      have hdo := hg i ops[i] (by simp [hi'])
      rw [ho, h1 i hi']
      simp only [Option.map_some, Option.getD_some, readyB]
      rw [dep_eq hdo (fun j => listed.getD j false)]
      congr 1
      apply List.all_congr rfl
      intro j
      rw [Bool.eq_iff_iff]
      constructor
      · exact h2 j
      · intro hj
        have hjl := h3 j hj
        have := h1 j hjl
        rw [hj] at this
        simpa [Array.getD_eq_getD_getElem?, show j < listed.size by omega] using this
    unfold Region.linearise.go linGo
    simp only [hfil]
    split
    · rename_i i hi
      have hmem : i ∈ (List.range deps.length).filter (readyB deps acc) := List.mem_of_getElem? hi
      have hi' : i < ops.size := by
        have := (List.mem_filter.1 hmem).1
        rw [hlen] at this
        simpa using this
      rw [hi]
      refine lin_go hd fuel _ _ (i :: acc) (by simpa using hs) (fun j hj => ?_) (fun j hj => ?_) (fun j hj => ?_)
      · by_cases hij : i = j
        · subst hij; simp [Array.getD_eq_getD_getElem?, hs, hi']
        · have := h1 j hj
          have hji : (j == i) = false := by simp; omega
          simp only [Array.getD_eq_getD_getElem?, Array.getElem?_setIfInBounds, hij, if_false] at this ⊢
          rw [this]
          simp only [List.elem, hji]
      · by_cases hij : i = j
        · subst hij; simp
        · simp only [Array.getD_eq_getD_getElem?, Array.getElem?_setIfInBounds, hij, if_false] at hj
          have := List.elem_iff.1 (h2 j (by simpa [Array.getD_eq_getD_getElem?] using hj))
          exact List.elem_iff.2 (List.mem_cons_of_mem _ this)
      · rcases List.mem_cons.1 (List.elem_iff.1 hj) with rfl | hj
        · exact hi'
        · exact h3 j (List.elem_iff.2 hj)
    · rename_i hi
      rw [hi]
theorem lin_eq {deps : List (List Nat)} {ops : Array Oper} (hd : depsOk deps ops.toList = true) (t : Nat) : Region.linearise .any ops t = lin deps t := by
  unfold Region.linearise lin
  have hlen : deps.length = ops.size := by simpa using (deps_get hd).1
  rw [hlen]
  refine lin_go hd _ _ _ _ (by simp) (fun i hi => ?_) (fun i hi => ?_) (fun i hi => ?_)
  · simp [Array.getD_eq_getD_getElem?, hi]
  · by_cases h : i < ops.size
    · simp [Array.getD_eq_getD_getElem?, h] at hi
    · simp [Array.getD_eq_getD_getElem?, h] at hi
  · simp at hi
end Go.Proofs.YtlehfgdhebapeaaDoor.KM
/- What goes over to a function and comes back of it (second form). -/
namespace Go.Proofs.YtlehfgdhebapeaaDoor.KM
open Go Go.RowKit
variable {P : Program} {G : List (Nat × List V)} {N : Nat} {γ : Gh} {σ : St} {w w' : World}

theorem low1 {κ : Kap} {O : List (Nat × Nat)} {v : V} {u : Value} (h : Rep1 ⟨κ, []⟩ w v u) : Rep1 ⟨κ, O⟩ w v u := by
  have low : ∀ {v : V} {u : Value}, RepC ⟨κ, []⟩ w v u → RepC ⟨κ, O⟩ w v u := fun hr => by
    induction hr with
    | row h => exact .row h
    | imm row h1 h2 h3 h4 => exact .imm row h1 h2 h3 h4
    | ptr h => simp at h
    | sl h => simp at h
    | nilp => exact .nilp
    | nilf => exact .nilf
    | ifc => exact .ifc
    | fn h1 h2 _ _ ih1 ih2 => exact .fn h1 h2 ih1 ih2
    | mp h => simp at h
  cases h with
  | cell h => exact .cell (low h)
  | agg h1 h2 => exact .agg h1 (fun j hj => low (h2 j hj))
theorem lowV {κ : Kap} {O : List (Nat × Nat)} {v : V} {u : Value} (h : RepV ⟨κ, []⟩ w v u) : RepV ⟨κ, O⟩ w v u := by
  cases h with
  | und => exact .und
  | skp => exact .skp
  | one h => exact .one (low1 h)
  | tup h1 h2 => exact .tup h1 (fun j hj => low1 (h2 j hj))

/-- settled copies stand for the same -/
theorem settle1_rep {κ' : Kap} {js : List Nat} (hI : Inv G N γ σ w) (hx : Ext γ w ⟨κ', γ.O⟩ w) (hs : Shut γ σ js κ') {v v' : V} {u : Value} (h : settle1 σ js v = some v') (hr : RepV γ w v u) (O : List (Nat × Nat)) : Rep1 ⟨κ', O⟩ w v' u := by
  unfold settle1 at h
  split at h
  · cases h
    obtain ⟨b, o, k, row, hu, h1, h2, h3, h4⟩ := repC_imm (repV_cell rfl hr)
    rw [hu]
    obtain ⟨k', hk', hle⟩ := hx.kap _ _ h1
    exact .cell (.imm row hk' (Nat.le_trans h2 hle) h3 (fun j hj => (h4 j hj).keep hx.kap hx.cell))
  · rename_i cs
    simp only [Option.map_eq_some_iff] at h
    obtain ⟨cs', hm, rfl⟩ := h
    obtain ⟨us, hu, hl, hj⟩ := repV_agg hr
    obtain ⟨l, g⟩ := mapM_get hm
    rw [hu]
    refine .agg (by omega) (fun j hj' => ?_)
    have hj2 : j < cs.length := by omega
    obtain ⟨y, hy, hf⟩ := g j _ (List.getElem?_eq_getElem hj2)
    rw [show cs'.getD j .und = y by rw [List.getD_eq_getElem?_getD, hy]; rfl]
    have := hj j hj2
    rw [show cs.getD j .und = cs[j] by rw [List.getD_eq_getElem?_getD, List.getElem?_eq_getElem hj2]; rfl] at this
    exact .row (settle_rep hI hx hs hf this)
  · have hc : v.cellB = true := by
      unfold settle at h
      split at h
      · rename_i hv; revert hv; cases v <;> simp [V.rowB, V.cellB]
      · split at h
        · rfl
        · cases h
    exact .cell (.row (settle_rep hI hx hs h (repV_cell hc hr)))
theorem settleV_rep {κ' : Kap} {js : List Nat} (hI : Inv G N γ σ w) (hx : Ext γ w ⟨κ', γ.O⟩ w) (hs : Shut γ σ js κ') {v v' : V} {u : Value} (h : settleV σ js v = some v') (hr : RepV γ w v u) (O : List (Nat × Nat)) : RepV ⟨κ', O⟩ w v' u := by
  unfold settleV at h
  split at h
  · rename_i vs
    simp only [Option.map_eq_some_iff] at h
    obtain ⟨vs', hm, rfl⟩ := h
    obtain ⟨us, hu, hl, hj⟩ := repV_tup hr
    obtain ⟨l, g⟩ := mapM_get hm
    rw [hu]
    refine .tup (by omega) (fun j hj' => ?_)
    have hj2 : j < vs.length := by omega
    obtain ⟨y, hy, hf⟩ := g j _ (List.getElem?_eq_getElem hj2)
    rw [show vs'.getD j .und = y by rw [List.getD_eq_getElem?_getD, hy]; rfl]
    have := hj j hj2
    rw [show vs.getD j .und = vs[j] by rw [List.getD_eq_getElem?_getD, List.getElem?_eq_getElem hj2]; rfl] at this
    exact settle1_rep hI hx hs hf (.one this) O
  · exact .one (settle1_rep hI hx hs h hr O)
theorem flatV_rep {v : V} {u : Value} (hf : v.flatV = true) (h : RepV γ w v u) (γ' : Gh) (w' : World) : RepV γ' w' v u := by
  cases h with
  | und => exact .und
  | skp => exact .skp
  | one h =>
    cases h with
    | cell h =>
      have : v.flatB = true := by
        have hc := (repC_none h).1
        revert hf hc
        cases v <;> simp [V.flatV, V.flatB, V.cellB]
      exact .one (.cell (flat_rep this h γ' w'))
    | @agg cs us h1 h2 =>
      have hf' : cs.all V.flatB = true := hf
      exact .one (.agg h1 (fun j hj => flat_rep (List.all_eq_true.1 hf' _ (by rw [List.getD_eq_getElem?_getD, List.getElem?_eq_getElem hj]; exact List.getElem_mem hj)) (h2 j hj) γ' w'))
  | @tup vs us h1 h2 =>
    have hf' : (vs.all fun v => v.cells.all V.flatB) = true := hf
    refine .tup h1 (fun j hj => ?_)
    have hfj := List.all_eq_true.1 hf' (vs.getD j .und) (by rw [List.getD_eq_getElem?_getD, List.getElem?_eq_getElem hj]; exact List.getElem_mem hj)
    have hr := h2 j hj
    generalize vs.getD j .und = x at hfj hr
    generalize us.getD j undef = y at hr ⊢
    cases hr with
    | cell h =>
      have : x.flatB = true := by
        have hc := (repC_none h).1
        revert hfj hc
        cases x <;> simp [V.cells, V.flatB, V.cellB]
      exact .cell (flat_rep this h γ' w')
    | @agg cs us h1 h2 =>
      have hf2 : cs.all V.flatB = true := hfj
      exact .agg h1 (fun j hj => flat_rep (List.all_eq_true.1 hf2 _ (by rw [List.getD_eq_getElem?_getD, List.getElem?_eq_getElem hj]; exact List.getElem_mem hj)) (h2 j hj) γ' w')

/-- a pure function sees no objects -/
theorem inv_pure {κ' : Kap} (h : Inv G N ⟨κ', γ.O⟩ σ w) : Inv G w.heap.size ⟨κ', []⟩ [] w where
  base := Nat.le_refl _
  len := rfl
  nd := List.nodup_nil
  low := fun i p h => by simp at h
  obj := fun i ob p h => by simp at h
  dom := h.dom
  glob := fun g r hg => by
    obtain ⟨b, o, k, row, hu, h1, h2, h3, h4⟩ := repC_imm (h.glob g r hg)
    rw [hu]
    exact .imm row h1 h2 h3 h4
  gsz := fun g r hg => ⟨by have := (h.gsz g r hg).1; have := h.base; omega, (h.gsz g r hg).2⟩
/-- what is left behind a call of a pure function -/
theorem after_call {args : List V} {v : V} {u : Value} {κ1 κ2 : Kap} {w1 : World} (hI : Inv G N γ σ w) (h1 : Inv G N ⟨κ1, γ.O⟩ (σ.freeze (jsOf σ args)) w) (hx : Ext γ w ⟨κ1, γ.O⟩ w) (hN : ∀ b, b < N → κ1 b = γ.κ b)
    (hb : Below w.heap.size w w1) (hk : ∀ b, b < w.heap.size → κ2 b = κ1 b) (hd : ∀ b k, κ2 b = some k → b < w1.heap.size) (hv : RepV ⟨κ2, []⟩ w1 v u) :
    ∃ γ1, Inv G N γ1 (after σ args v) w1 ∧ Ext γ w γ1 w1 ∧ RepV γ1 w1 v u ∧ (∀ b, b < N → γ1.κ b = γ.κ b) ∧ Below N w w1 := by
  unfold after
  split
  · rename_i hf
    obtain ⟨i1, i2⟩ := hI.more (w' := w1) (κ' := fun b => if b < w.heap.size then γ.κ b else κ2 b) (fun b hlt => hb.block b hlt) hb.size (fun b hlt => if_pos hlt) (fun b k hbk => by
      by_cases hlt : b < w.heap.size
      · have := hb.size; omega
      · rw [if_neg hlt] at hbk; exact hd b k hbk)
    exact ⟨_, i1, i2, flatV_rep hf hv _ _, fun b hlt => if_pos (Nat.lt_of_lt_of_le hlt hI.base), hb.mono hI.base⟩
  · obtain ⟨i1, i2⟩ := h1.more (w' := w1) (κ' := κ2) (fun b hlt => hb.block b hlt) hb.size hk hd
    exact ⟨_, i1, hx.trans i2, lowV hv, fun b hlt => (hk b (Nat.lt_of_lt_of_le hlt hI.base)).trans (hN b hlt), hb.mono hI.base⟩

/-- a function that is known by what it returns -/
def PrimOk (P : Program) (G : List (Nat × List V)) (f : Nat) (s : List V → Option V) : Prop :=
  (∃ fn c, P.funcs[f]? = some fn ∧ fn.body = some c ∧ fn.name ≠ "runtime.NumGoroutine") ∧
  ∀ (κ : Kap) (w : World) (vs : List V) (us : List Value) (v : V), (∀ g r, (g, r) ∈ G → RepC ⟨κ, []⟩ w (.imm r 0) (.pointer (some ⟨g, 0, none⟩))) → (∀ g r, (g, r) ∈ G → sizeOf? w g = some r.length) → (∀ b k, κ b = some k → b < w.heap.size) → vs.length = us.length →
    (∀ j, j < vs.length → Rep1 ⟨κ, []⟩ w (vs.getD j .und) (us.getD j undef)) → s vs = some v →
    Calls P f us.toArray w fun e w' => ∃ u κ', e = .returned u ∧ RepV ⟨κ', []⟩ w' v u ∧ Below w.heap.size w w' ∧ (∀ b, b < w.heap.size → κ' b = κ b) ∧ ∀ b k, κ' b = some k → b < w'.heap.size

/-- a threaded function that is known by what it does -/
def ThrOk (P : Program) (G : List (Nat × List V)) (f : Nat) (s : List V → St → Option (V × St)) : Prop :=
  (∃ fn c, P.funcs[f]? = some fn ∧ fn.body = some c ∧ fn.name ≠ "runtime.NumGoroutine") ∧
  ∀ (args : List V) (σ : St) (v : V) (σ' : St), s args σ = some (v, σ') → ∀ (us : List Value) (w : World) (γ : Gh) (N : Nat), args.length = us.length → (∀ j, j < args.length → RepV γ w (args.getD j .und) (us.getD j undef)) → Inv G N γ σ w →
      Calls P f us.toArray w fun e w' => ∃ u γ', e = .returned u ∧ RepV γ' w' v u ∧ Inv G N γ' σ' w' ∧ Ext γ w γ' w' ∧ Below N w w' ∧ ∀ b, b < N → γ'.κ b = γ.κ b

/-! objects under new numbers -/
theorem refsL_mem : ∀ {cs : List V} {j i : Nat}, j < cs.length → i ∈ (cs.getD j .und).refs → i ∈ refsL cs
  | [], _, _, h, _ => by simp at h
  | c :: cs, 0, i, _, h => by simp only [refsL, List.mem_append]; exact .inl (by simpa using h)
  | c :: cs, j + 1, i, hj, h => by simp only [refsL, List.mem_append]; exact .inr (refsL_mem (j := j) (by simpa using hj) (by simpa using h))
theorem renL_len (ρ : Nat → Nat) : ∀ cs : List V, (renL ρ cs).length = cs.length
  | [] => rfl
  | c :: cs => by simp [renL, renL_len ρ cs]
theorem renL_get (ρ : Nat → Nat) : ∀ {cs : List V} {j : Nat}, j < cs.length → (renL ρ cs).getD j .und = (cs.getD j .und).ren ρ
  | [], _, h => by simp at h
  | c :: cs, 0, _ => by simp [renL]
  | c :: cs, j + 1, h => by simpa [renL] using renL_get ρ (cs := cs) (j := j) (by simpa using h)
theorem RepC.renum {O : List (Nat × Nat)} {ρ : Nat → Nat} {v : V} {u : Value} (h : RepC γ w v u) : (∀ i ∈ v.refs, ∀ p, γ.O[i]? = some p → O[ρ i]? = some p) → RepC ⟨γ.κ, O⟩ w (v.ren ρ) u := by
  induction h with
  | row h =>
    intro _
    cases h with
    | bool => exact .row .bool
    | int => exact .row .int
    | str h => exact .row (.str h)
    | nili => exact .row .nili
    | ifc => exact .row .ifc
    | nils => exact .row .nils
    | lst row h1 h2 h3 h4 h5 h6 h7 => exact .row (.lst row h1 h2 h3 h4 h5 h6 h7)
  | imm row h1 h2 h3 h4 => exact fun _ => .imm row h1 h2 h3 h4
  | ptr h1 h2 h3 => exact fun hr => .ptr (hr _ (by simp [V.refs]) _ h1) h2 h3
  | sl h1 h2 h3 h4 h5 h6 => exact fun hr => .sl (hr _ (by simp [V.refs]) _ h1) h2 h3 h4 h5 h6
  | nilp => exact fun _ => .nilp
  | nilf => exact fun _ => .nilf
  | ifc => exact fun _ => .ifc
  | fn h1 h2 _ _ ih1 ih2 =>
    intro hr
    refine .fn (by rw [renL_len]; exact h1) (by rw [renL_len]; exact h2) (fun j hj => ?_) (fun j hj => ?_)
    · rw [renL_len] at hj
      rw [renL_get ρ hj]
      exact ih1 j hj (fun i hi => hr i (by simp only [V.refs, List.mem_append]; exact .inl (refsL_mem hj hi)))
    · rw [renL_len] at hj
      rw [renL_get ρ hj]
      exact ih2 j hj (fun i hi => hr i (by simp only [V.refs, List.mem_append]; exact .inr (refsL_mem hj hi)))
  | mp h1 h2 h3 => exact fun hr => .mp (hr _ (by simp [V.refs]) _ h1) h2 h3
theorem Rep1.renum {O : List (Nat × Nat)} {ρ : Nat → Nat} {v : V} {u : Value} (h : Rep1 γ w v u) (hr : ∀ i ∈ v.refs, ∀ p, γ.O[i]? = some p → O[ρ i]? = some p) : Rep1 ⟨γ.κ, O⟩ w (v.ren ρ) u := by
  cases h with
  | cell h => exact .cell (h.renum hr)
  | agg h1 h2 =>
    refine .agg (by rw [renL_len]; exact h1) (fun j hj => ?_)
    rw [renL_len] at hj
    rw [renL_get ρ hj]
    exact (h2 j hj).renum (fun i hi => hr i (by simp only [V.refs]; exact refsL_mem hj hi))
theorem RepV.renum {O : List (Nat × Nat)} {ρ : Nat → Nat} {v : V} {u : Value} (h : RepV γ w v u) (hr : ∀ i ∈ v.refs, ∀ p, γ.O[i]? = some p → O[ρ i]? = some p) : RepV ⟨γ.κ, O⟩ w (v.ren ρ) u := by
  cases h with
  | und => exact .und
  | skp => exact .skp
  | one h => exact .one (h.renum hr)
  | tup h1 h2 =>
    refine .tup (by rw [renL_len]; exact h1) (fun j hj => ?_)
    rw [renL_len] at hj
    rw [renL_get ρ hj]
    exact (h2 j hj).renum (fun i hi => hr i (by simp only [V.refs]; exact refsL_mem hj hi))
theorem ObOk.renum {O : List (Nat × Nat)} {ρ : Nat → Nat} {ob : Ob} {p : Nat × Nat} (h : ObOk γ w ob p) (hr : ∀ i ∈ ob.refs, ∀ q, γ.O[i]? = some q → O[ρ i]? = some q) : ObOk ⟨γ.κ, O⟩ w (ob.ren ρ) p := by
  cases ob with
  | row cs e g z =>
    obtain ⟨h1, h2, h3, us, lo, hi, h4, h5, h6, h7⟩ := h
    refine ⟨h1, h2, by rw [renL_len]; exact h3, us, lo, hi, h4, h5, by rw [renL_len]; exact h6, fun j hj => ?_⟩
    rw [renL_len] at hj
    rw [renL_get ρ hj]
    exact (h7 j hj).renum (fun i hi => hr i (by simp only [Ob.refs]; exact refsL_mem hj hi))
  | map kvs =>
    obtain ⟨h1, h2, es, h3, h4, h5⟩ := h
    refine ⟨h1, h2, es, by simpa using h3, by simpa using h4, fun i k v hi => ?_⟩
    simp only [List.getElem?_map, Option.map_eq_some_iff] at hi
    obtain ⟨⟨k', v'⟩, hi, he⟩ := hi
    simp only [Prod.mk.injEq] at he
    obtain ⟨rfl, rfl⟩ := he
    obtain ⟨en, a1, a2, a3, a4, a5, a6⟩ := h5 i k' v' hi
    have hfv : (v'.ren ρ).flatB = true := by revert a5; cases v' <;> simp [V.flatB, V.ren]
    exact ⟨en, a1, a2, a3, a4, hfv, a6.renum (fun i' hi' => hr i' (by
      simp only [Ob.refs]
      have hlt := (List.getElem?_eq_some_iff.1 hi).1
      exact refsL_mem (j := i) (by simpa using hlt) (by simpa [List.getD_eq_getElem?_getD, hi] using hi')))⟩
  | dead => exact h
mutual
theorem ren_id : ∀ v : V, v.ren (fun i => i) = v
  | .und | .skp | .bool _ | .int _ _ | .str _ | .nili | .ifc | .nils | .nilp | .nilf | .lst _ _ | .imm _ _ | .ptr _ _ _ | .sl _ _ _ _ _ _ | .mp _ => by simp [V.ren]
  | .fn f a c => by simp [V.ren, renL_id a, renL_id c]
  | .agg cs => by simp [V.ren, renL_id cs]
  | .tup vs => by simp [V.ren, renL_id vs]
theorem renL_id : ∀ cs : List V, renL (fun i => i) cs = cs
  | [] => rfl
  | c :: cs => by simp [renL, ren_id c, renL_id cs]
end
theorem ob_ren_id (ob : Ob) : ob.ren (fun i => i) = ob := by
  cases ob with
  | row cs e g z => simp [Ob.ren, renL_id]
  | map kvs => simp [Ob.ren, ren_id]
  | dead => rfl
/-- what a value names is there -/
theorem refsL_ex : ∀ {cs : List V} {i : Nat}, i ∈ refsL cs → ∃ j, j < cs.length ∧ i ∈ (cs.getD j .und).refs
  | [], _, h => by simp [refsL] at h
  | c :: cs, i, h => by
    simp only [refsL, List.mem_append] at h
    rcases h with h | h
    · exact ⟨0, by simp, by simpa using h⟩
    · obtain ⟨j, h1, h2⟩ := refsL_ex h
      exact ⟨j + 1, by simpa using h1, by simpa using h2⟩
theorem RepC.refs_lt {v : V} {u : Value} (h : RepC γ w v u) : ∀ i ∈ v.refs, i < γ.O.length := by
  induction h with
  | row h => intro i hi; cases h <;> simp [V.refs] at hi
  | imm => intro i hi; simp [V.refs] at hi
  | ptr h1 => intro i hi; simp [V.refs] at hi; subst hi; exact (List.getElem?_eq_some_iff.1 h1).1
  | sl h1 => intro i hi; simp [V.refs] at hi; subst hi; exact (List.getElem?_eq_some_iff.1 h1).1
  | nilp => intro i hi; simp [V.refs] at hi
  | nilf => intro i hi; simp [V.refs] at hi
  | ifc => intro i hi; simp [V.refs] at hi
  | fn h1 h2 _ _ ih1 ih2 =>
    intro i hi
    simp only [V.refs, List.mem_append] at hi
    rcases hi with hi | hi
    · obtain ⟨j, g1, g2⟩ := refsL_ex hi
      exact ih1 j g1 i g2
    · obtain ⟨j, g1, g2⟩ := refsL_ex hi
      exact ih2 j g1 i g2
  | mp h1 => intro i hi; simp [V.refs] at hi; subst hi; exact (List.getElem?_eq_some_iff.1 h1).1
theorem ObOk.refs_lt {ob : Ob} {p : Nat × Nat} (h : ObOk γ w ob p) : ∀ i ∈ ob.refs, i < γ.O.length := by
  intro i hi
  cases ob with
  | row cs e g z =>
    obtain ⟨_, _, _, us, lo, hi', _, _, _, h7⟩ := h
    obtain ⟨j, g1, g2⟩ := refsL_ex (show i ∈ refsL cs from hi)
    exact (h7 j g1).refs_lt i g2
  | map kvs =>
    obtain ⟨_, _, es, _, _, h5⟩ := h
    obtain ⟨j, g1, g2⟩ := refsL_ex (show i ∈ refsL (kvs.map (·.2)) from hi)
    have hj : j < kvs.length := by simpa using g1
    obtain ⟨en, _, _, _, _, _, a6⟩ := h5 j (kvs[j]).1 (kvs[j]).2 (List.getElem?_eq_getElem hj)
    exact a6.refs_lt i (by simpa [List.getD_eq_getElem?_getD, hj] using g2)
  | dead => simp [Ob.refs] at hi

/-- THE OBJECTS js OF THOSE BEHIND THE FIRST n ARE KEPT, the others dropped -/
theorem Inv.leave {γ' : Gh} {σ' : St} {w' : World} {n : Nat} {js : List Nat} {ρ : Nat → Nat} (hI : Inv G N γ' σ' w') (hn : n ≤ σ'.length) (hjs : ∀ i ∈ js, n ≤ i ∧ i < σ'.length) (hnd : js.Nodup)
    (hρ : ∀ i, i < n → ρ i = i) (hρ2 : ∀ k (hk : k < js.length), ρ js[k] = n + k)
    (hob : ∀ (i : Nat) (ob : Ob), (i < n ∨ i ∈ js) → σ'[i]? = some ob → ∀ j ∈ ob.refs, j < n ∨ j ∈ js) :
    Inv G N ⟨γ'.κ, γ'.O.take n ++ js.filterMap (γ'.O[·]?)⟩ ((σ'.take n ++ js.filterMap (σ'[·]?)).map (Ob.ren ρ)) w' ∧ ∀ i, (i < n ∨ i ∈ js) → ∀ p, γ'.O[i]? = some p → (γ'.O.take n ++ js.filterMap (γ'.O[·]?))[ρ i]? = some p := by
  have hlen := hI.len
  -- the kept ones, one by one
  have pick : ∀ {α : Type} (l : List α), l.length = σ'.length → (js.filterMap (l[·]?)).length = js.length ∧ ∀ k (hk : k < js.length), (js.filterMap (l[·]?))[k]? = l[js[k]]? := fun {α} l hl => by
    have : js.filterMap (l[·]?) = js.pmap (fun i hi => l[i]'(by rw [hl]; exact hi)) (fun i hi => (hjs i hi).2) := by
      clear hnd hρ2 hob
      induction js with
      | nil => rfl
      | cons a js ih =>
        have ha : a < l.length := by rw [hl]; exact (hjs a (by simp)).2
        rw [List.filterMap_cons, List.getElem?_eq_getElem ha]
        simp only [List.pmap_cons]
        rw [ih (fun i hi => hjs i (List.mem_cons_of_mem _ hi))]
    rw [this]
    refine ⟨by simp, fun k hk => ?_⟩
    have hk2 : js[k] < l.length := by rw [hl]; exact (hjs _ (List.getElem_mem hk)).2
    rw [List.getElem?_eq_getElem (by simpa using hk), List.getElem_pmap, List.getElem?_eq_getElem hk2]
  obtain ⟨po1, po2⟩ := pick γ'.O hlen
  obtain ⟨ps1, ps2⟩ := pick σ' rfl
  have htake : (γ'.O.take n).length = n := by simp; omega
  have htake2 : (σ'.take n).length = n := by simp; omega
  have hmap : ∀ i, (i < n ∨ i ∈ js) → ∀ p, γ'.O[i]? = some p → (γ'.O.take n ++ js.filterMap (γ'.O[·]?))[ρ i]? = some p := by
    intro i hi p hp
    by_cases hin : i < n
    · rw [hρ i hin, List.getElem?_append_left (by omega), List.getElem?_take, if_pos hin]
      exact hp
    · rcases hi with h | h
      · exact absurd h hin
      · obtain ⟨k, hk, rfl⟩ := List.getElem_of_mem h
        rw [hρ2 k hk, List.getElem?_append_right (by omega), htake, show n + k - n = k by omega, po2 k hk]
        exact hp
  -- an index of the new state stands for one of the old
  have back : ∀ q, q < n + js.length → ∃ i, (i < n ∨ i ∈ js) ∧ ρ i = q ∧ (γ'.O.take n ++ js.filterMap (γ'.O[·]?))[q]? = γ'.O[i]? ∧ (σ'.take n ++ js.filterMap (σ'[·]?))[q]? = σ'[i]? := by
    intro q hq
    by_cases hqn : q < n
    · refine ⟨q, .inl hqn, hρ q hqn, ?_, ?_⟩
      · rw [List.getElem?_append_left (by omega), List.getElem?_take, if_pos hqn]
      · rw [List.getElem?_append_left (by omega), List.getElem?_take, if_pos hqn]
    · have hk : q - n < js.length := by omega
      refine ⟨js[q - n], .inr (List.getElem_mem hk), by rw [hρ2 _ hk]; omega, ?_, ?_⟩
      · rw [List.getElem?_append_right (by omega), htake, po2 _ hk]
      · rw [List.getElem?_append_right (by omega), htake2, ps2 _ hk]
  have hOl : (γ'.O.take n ++ js.filterMap (γ'.O[·]?)).length = n + js.length := by rw [List.length_append, htake, po1]
  have hSl : (σ'.take n ++ js.filterMap (σ'[·]?)).length = n + js.length := by rw [List.length_append, htake2, ps1]
  refine ⟨⟨hI.base, by rw [List.length_map, hOl, hSl], ?_, fun q p hp => ?_, fun q ob p h1 h2 => ?_, hI.dom, fun g r hg => ?_, hI.gsz⟩, hmap⟩
  · refine List.pairwise_iff_getElem.2 fun q1 q2 h1 h2 h12 => ?_
    simp only [List.length_map, hOl] at h1 h2
    obtain ⟨i1, c1, e1, o1, _⟩ := back q1 h1
    obtain ⟨i2, c2, e2, o2, _⟩ := back q2 h2
    have hne : i1 ≠ i2 := fun e => by subst e; omega
    rw [List.getElem_map, List.getElem_map]
    have hq1 : q1 < (γ'.O.take n ++ js.filterMap (γ'.O[·]?)).length := by omega
    have hq2 : q2 < (γ'.O.take n ++ js.filterMap (γ'.O[·]?)).length := by omega
    rw [List.getElem?_eq_getElem hq1] at o1
    rw [List.getElem?_eq_getElem hq2] at o2
    exact hI.ne o1.symm o2.symm hne
  · have hq : q < n + js.length := by have := (List.getElem?_eq_some_iff.1 hp).1; rw [← hOl]; exact this
    obtain ⟨i, c1, e1, o1, _⟩ := back q hq
    have hp' : (γ'.O.take n ++ js.filterMap (γ'.O[·]?))[q]? = some p := hp
    rw [o1] at hp'
    exact hI.low i p hp'
  · have hq : q < n + js.length := by have := (List.getElem?_eq_some_iff.1 h2).1; rw [← hOl]; exact this
    obtain ⟨i, c1, e1, o1, o2⟩ := back q hq
    have h2' : (γ'.O.take n ++ js.filterMap (γ'.O[·]?))[q]? = some p := h2
    rw [o1] at h2'
    simp only [List.getElem?_map, Option.map_eq_some_iff] at h1
    obtain ⟨ob0, h1, rfl⟩ := h1
    rw [o2] at h1
    exact (hI.obj i ob0 p h1 h2').renum (fun j hj r hr => hmap j (hob i ob0 c1 h1 j hj) r hr)
  · obtain ⟨b, o, k, row, hu, h1, h2, h3, h4⟩ := repC_imm (hI.glob g r hg)
    rw [hu]
    exact .imm row h1 h2 h3 h4
end Go.Proofs.YtlehfgdhebapeaaDoor.KM
/- THE PLAIN MACHINE IS RIGHT. -/
namespace Go.Proofs.YtlehfgdhebapeaaDoor.KM
open Go Go.RowKit
variable {P : Program} {G : List (Nat × List V)} {T : Nat → Option AF} {pr : Nat → Option (List V → Option V)}

/-- what stretches of code leave -/
def Leaves (G : List (Nat × List V)) (N n : Nat) (D : List Deferred) (γ : Gh) (σ : St) (w : World) (e' : Env) (σ' : St) (a' : Act) (w' : World) : Prop :=
  ∃ γ', RepE γ' w' e' a'.tmps ∧ Inv G N γ' σ' w' ∧ Ext γ w γ' w' ∧ Below N w w' ∧ (∀ b, b < N → γ'.κ b = γ.κ b) ∧ a'.tmps.size = n ∧ a'.defers = D
theorem Leaves.after {N n : Nat} {D : List Deferred} {γ γ1 : Gh} {σ σ1 σ' : St} {w w1 w' : World} {e' : Env} {a' : Act} (hx : Ext γ w γ1 w1) (hb : Below N w w1) (hk : ∀ b, b < N → γ1.κ b = γ.κ b) (h : Leaves G N n D γ1 σ1 w1 e' σ' a' w') : Leaves G N n D γ σ w e' σ' a' w' := by
  obtain ⟨γ', h1, h2, h3, h4, h5, h6⟩ := h
  exact ⟨γ', h1, h2, hx.trans h3, hb.trans h4, fun b hb => (h5 b hb).trans (hk b hb), h6⟩

inductive MK (P : Program) (G : List (Nat × List V)) (n : Nat) : List It → List Item → Prop
  | nil : MK P G n [] []
  | c {ac : AC} {c : Code} {k : List It} {todo : List Item} : okC P G n ac c = true → MK P G n k todo → MK P G n (.c ac :: k) (.code c :: todo)
  | b {id : Nat} {k : List It} {todo : List Item} : MK P G n k todo → MK P G n (.b id :: k) (.inBlock id :: todo)
  | l {keep : List Nat} {ac : AC} {c : Code} {k : List It} {todo : List Item} : okC P G n ac c = true → MK P G n k todo → MK P G n (.l keep ac :: k) (.inLoop c :: todo)
  | l' {keep : List Nat} {ac : AC} {c : Code} {k : List It} {todo : List Item} : okC P G n ac c = true → MK P G n k todo → MK P G n (.l keep ac :: k) (.code (.loop c) :: todo)
theorem MK.exit {n id : Nat} {k : List It} {todo : List Item} (h : MK P G n k todo) : ∀ {k' : List It}, exitTo id k = some k' → ∃ todo', Go.exitTo id todo = some todo' ∧ MK P G n k' todo' := by
  induction h with
  | nil => intro k' h; simp [exitTo] at h
  | c _ _ ih => intro k' h; simp only [exitTo] at h; simpa [Go.exitTo] using ih h
  | b hk ih =>
    intro k' h
    simp only [exitTo] at h
    split at h
    · rename_i he
      cases h
      exact ⟨_, by simp [Go.exitTo, he], hk⟩
    · rename_i he
      obtain ⟨t, h1, h2⟩ := ih h
      exact ⟨t, by simp [Go.exitTo, he, h1], h2⟩
  | l _ _ ih => intro k' h; simp only [exitTo] at h; simpa [Go.exitTo] using ih h
  | l' _ _ ih => intro k' h; simp only [exitTo] at h; simpa [Go.exitTo] using ih h

/-- operations, in the order of L -/
def ML (P : Program) (G : List (Nat × List V)) (n : Nat) (ops : Array Oper) : List AI → List Nat → Prop
  | [], [] => True
  | i :: is, j :: js => (∃ o, ops[j]? = some o ∧ okAI P G n ops i o = true) ∧ ML P G n ops is js
  | _, _ => False

/-- what is shown of a judgement -/
def Shown (P : Program) (G : List (Nat × List V)) : J → Prop
  | .ops l e σ e' σ' => ∀ (n : Nat) (D : List Deferred) (ops : Array Oper) (L : List Nat) (a : Act) (w : World) (γ : Gh) (N : Nat) (Q : Exit → Act → World → Prop), ML P G n ops l L → a.tmps.size = n → a.defers = D → RepE γ w e a.tmps → Inv G N γ σ w →
      (∀ a' w', Leaves G N n D γ σ w e' σ' a' w' → Q .normal a' w') → wpOps P ops Q L a w
  | .code k e σ e' σ' => ∀ (n : Nat) (D : List Deferred) (todo : List Item) (a : Act) (w : World) (γ : Gh) (N : Nat), MK P G n k todo → a.tmps.size = n → a.defers = D → RepE γ w e a.tmps → Inv G N γ σ w → ∀ (b : Frame) (cs : List Frame),
      ∃ a' w' todo', Steps P (lone (b.at a todo) cs w) (lone { b.at a' todo' with mode := .returning } cs w') ∧ Leaves G N n D γ σ w e' σ' a' w'
  | .fn f args σ v σ' => ∀ (us : List Value) (w : World) (γ : Gh) (N : Nat), args.length = us.length → (∀ j, j < args.length → RepV γ w (args.getD j .und) (us.getD j undef)) → Inv G N γ σ w →
      Calls P f us.toArray w fun e w' => ∃ u γ', e = .returned u ∧ RepV γ' w' v u ∧ Inv G N γ' σ' w' ∧ Ext γ w γ' w' ∧ Below N w w' ∧ ∀ b, b < N → γ'.κ b = γ.κ b

theorem wanted_eq {n : Nat} {ops : Array Oper} {i : AI} {o : Oper} {γ : Gh} {w : World} {e : Env} {a : Act} {z : Bool} (hg : okG n ops i.g o.guard = true) (ha : a.tmps.size = n) (hE : RepE γ w e a.tmps) (h : wantedB e i = some z) : Region.wanted o (yielded ops a.tmps) = z := by
  unfold okG at hg
  unfold wantedB at h
  unfold Region.wanted
  split at hg
  · rename_i h1 h2
    rw [h1] at h
    rw [h2]
    simpa using h
  · rename_i t b j b' h1 h2
    simp only [Bool.and_eq_true, beq_iff_eq, decide_eq_true_eq] at hg
    obtain ⟨rfl, hd, ht⟩ := hg
    rw [h1] at h
    rw [h2]
    simp only at h ⊢
    have hrep := hE t
    have hy : a.tmps[t]? = some (a.tmps.getD t undef) := by
      rw [Array.getD_eq_getD_getElem?, Array.getElem?_eq_getElem (by omega)]; rfl
    split at h
    · rename_i z' e1
      rw [e1] at hrep
      have := repC_bool (repV_cell rfl hrep)
      cases h
      simp only [yielded, hd, Option.bind_some, hy, this]
      cases z' <;> cases b <;> rfl
    · rename_i e1
      rw [e1] at hrep
      cases h
      have : a.tmps.getD t undef = undef := by
        generalize a.tmps.getD t undef = u at hrep
        cases hrep with
        | skp => rfl
        | one h => cases h with | cell h => exact absurd (repC_none h).1 (by simp [V.cellB])
      simp only [yielded, hd, Option.bind_some, hy, this]
      cases b <;> rfl
    · cases h
  · cases hg

theorem put_rep {n : Nat} {γ : Gh} {w : World} {e : Env} {a : Act} {d : Option Nat} {v : V} {u : Value} (hd : (match d with | some d => decide (d < n) | none => true) = true) (ha : a.tmps.size = n) (hE : RepE γ w e a.tmps) (hv : RepV γ w v u) :
    RepE γ w (e.putO d v) (a.put d u).tmps ∧ (a.put d u).tmps.size = n ∧ (a.put d u).defers = a.defers := by
  cases d with
  | none => exact ⟨hE, ha, rfl⟩
  | some d =>
    simp only [decide_eq_true_eq] at hd
    exact ⟨hE.put (by omega) hv, by simp [Act.put, ha], rfl⟩

theorem okCall_eq {f : Nat} {xs : List S} {op : Op} (h : okCall P G f xs op = true) : ∃ args ts, op = .call { callee := .value (.func f), args, argTypes := ts } ∧ okSs G xs args.toList = true := by
  unfold okCall at h
  split at h
  · simp only [Bool.and_eq_true, beq_iff_eq] at h
    obtain ⟨rfl, h⟩ := h
    exact ⟨_, _, rfl, h⟩
  · cases h

theorem okF_some {f : Nat} {F : AF} (h : okF P G f F = true) : ∃ fn c, P.funcs[f]? = some fn ∧ fn.body = some c ∧ okC P G fn.ntmps F.body c = true ∧ okRs2 P fn.ntmps F.res fn.results.toList = true ∧ F.pars ≤ fn.ntmps ∧ fn.name ≠ "runtime.NumGoroutine" := by
  unfold okF at h
  split at h
  · rename_i fn hf
    split at h
    · rename_i c hc
      simp only [Bool.and_eq_true, decide_eq_true_eq] at h
      obtain ⟨h1, h2, h3, h4⟩ := h
      exact ⟨fn, c, hf, hc, h1, h2, h3, by simpa using h4⟩
    · cases h
  · cases h

theorem rep1_of {γ : Gh} {w : World} {v : V} {u : Value} (h : okRes1 v = true) (hr : RepV γ w v u) : Rep1 γ w v u := by
  cases hr with
  | und => simp [okRes1, V.cellB] at h
  | skp => simp [okRes1, V.cellB] at h
  | one h => exact h
  | tup => simp [okRes1, V.cellB] at h

def resSem (tm : Array Value) : ResultVar → Sem Value
  | .tmp t => pure (tm.getD t undef)
  | .cell a t => do loadVar t (← asAddr (tm.getD a undef))
theorem run_res {n : Nat} {N : Nat} {γ : Gh} {σ : St} {w : World} {e : Env} {tm : Array Value} (hE : RepE γ w e tm) (hI : Inv G N γ σ w) : ∀ {rs : List AR} {qs : List ResultVar} {vs : List V}, okRs2 P n rs qs = true → rs.mapM (resOne e σ) = some vs →
    ∃ us : List Value, (qs.mapM (resSem tm)).run P w = .ok us w ∧ vs.length = us.length ∧ us.length = qs.length ∧ ∀ j, j < vs.length → RepV γ w (vs.getD j .und) (us.getD j undef)
  | [], [], vs, _, h => by
    simp at h
    subst h
    exact ⟨[], by simp, rfl, rfl, fun j hj => absurd hj (by simp)⟩
  | r :: rs, q :: qs, vs, hok, h => by
    simp only [okRs2, Bool.and_eq_true] at hok
    rw [List.mapM_cons] at h
    cases h1 : resOne e σ r with
    | none => simp [h1] at h
    | some v =>
      cases h2 : rs.mapM (resOne e σ) with
      | none => simp [h1, h2] at h
      | some vs' =>
        simp [h1, h2] at h
        subst h
        obtain ⟨us, g1, g2, g2', g3⟩ := run_res hE hI hok.2 h2
        have key : ∃ u, (resSem tm q).run P w = .ok u w ∧ RepV γ w v u := by
          have hr := hok.1
          unfold okR at hr
          split at hr
          · rename_i t t'
            simp only [Bool.and_eq_true, beq_iff_eq] at hr
            obtain ⟨rfl, _⟩ := hr
            simp only [resOne] at h1
            cases h1
            exact ⟨tm.getD t undef, rfl, hE t⟩
          · rename_i t k one t' ty
            simp only [Bool.and_eq_true, beq_iff_eq] at hr
            obtain ⟨rfl, hr1, hr2⟩ := hr
            obtain ⟨fi, i1, i2⟩ := sizeOk_some hr1
            obtain ⟨d, hd, hs⟩ := undIs_some hr2
            simp only [resOne] at h1
            obtain ⟨b, p, cs, f, hu, k1, k2, k3, k4⟩ := cells_at hI (hE t) h1
            obtain ⟨m1, m2⟩ := mkOne_rep k1 k2 k4
            have hl := run_loadVar (P := P) (w := w) hd (eq_of_beq hs) i1 i2 (fun h => (m1 h).1) k3
            refine ⟨if one then f 0 else .agg ((List.range k).map f).toArray, by simp only [resSem, hu, asAddr, Sem.run_bind, Sem.run_pure, Result.andThen_ok, hl], ?_⟩
            cases one with
            | true => exact repV_of (m1 rfl).2
            | false => exact .one (m2 rfl)
          · cases hr
        obtain ⟨u, hu, hv⟩ := key
        refine ⟨u :: us, by simp [List.mapM_cons, hu, g1], by simp [g2], by simp [g2'], fun j hj => ?_⟩
        cases j with
        | zero => exact hv
        | succ j => simpa using g3 j (by simpa using hj)
  | [], _ :: _, _, h, _ => by simp [okRs2] at h
  | _ :: _, [], _, h, _ => by simp [okRs2] at h

theorem ML.tail {n : Nat} {ops : Array Oper} {i : AI} {is : List AI} {L : List Nat} (h : ML P G n ops (i :: is) L) : ∃ j js o, L = j :: js ∧ ops[j]? = some o ∧ okAI P G n ops i o = true ∧ ML P G n ops is js := by
  cases L with
  | nil => exact h.elim
  | cons j js => obtain ⟨⟨o, h1, h2⟩, h3⟩ := h; exact ⟨j, js, o, rfl, h1, h2, h3⟩

/-- an operation of a list, its guard said yes -/
theorem wp_on {n : Nat} {ops : Array Oper} {o : Oper} {j : Nat} {js : List Nat} {a : Act} {w : World} {Q : Exit → Act → World → Prop} (ho : ops[j]? = some o) (hw : Region.wanted o (yielded ops a.tmps) = true) (h : o.wp P a w (wpOps P ops Q js) Q) : wpOps P ops Q (j :: js) a w := by
  simp only [wpOps, ho, hw, if_true]
  exact .inl h
theorem wp_off {ops : Array Oper} {o : Oper} {j : Nat} {js : List Nat} {a : Act} {w : World} {Q : Exit → Act → World → Prop} (ho : ops[j]? = some o) (hw : Region.wanted o (yielded ops a.tmps) = false) (h : wpOps P ops Q js (a.put o.dst undef) w) : wpOps P ops Q (j :: js) a w := by
  simp only [wpOps, ho, hw]
  simpa using h

theorem okAI_split {n : Nat} {ops : Array Oper} {i : AI} {o : Oper} (h : okAI P G n ops i o = true) : i.dst = o.dst ∧ (match i.dst with | some d => decide (d < n) | none => true) = true ∧ okG n ops i.g o.guard = true ∧ (match i.op with | .call f xs => okCall P G f xs o.op | .callv s xs => okCallv P G s xs o.op | ao => okOp P G ao o.op) = true := by
  unfold okAI at h
  simp only [Bool.and_eq_true, beq_iff_eq] at h
  exact ⟨h.1, h.2.1, h.2.2.1, h.2.2.2⟩

theorem run_callee {f : FuncId} {fn : Func} {c : Code} {args : Array Value} {w : World} (hf : P.funcs[f]? = some fn) (hb : fn.body = some c) (hn : fn.name ≠ "runtime.NumGoroutine") : (callFunc f args).run P w = .ok (.enter f args) w := by
  have hn' : (fn.name == "runtime.NumGoroutine") = false := by simpa using hn
  simp [callFunc, program, Sem.run, hf, hb, hn]
theorem run_call {a : Act} {o : Oper} {w : World} {f : FuncId} {fn : Func} {c : Code} {args : Array Operand} {ts : Array TypeId} (ho : o.op = .call { callee := .value (.func f), args, argTypes := ts }) (hf : P.funcs[f]? = some fn) (hb : fn.body = some c) (hn : fn.name ≠ "runtime.NumGoroutine") :
    (execOp a.eval o).run P w = .ok (.enter f (args.map a.eval)) w := by
  have := run_callee (P := P) (args := args.map a.eval) (w := w) hf hb hn
  simp [execOp, ho, resolve, Deferred.ofValue, Act.eval, invoke, this]
theorem run_callv {a : Act} {o : Oper} {w : World} {f : FuncId} {fn : Func} {c : Code} {x : Operand} {args : Array Operand} {ts : Array TypeId} {ua uc : Array Value} (ho : o.op = .call { callee := .value x, args, argTypes := ts }) (hx : a.eval x = .func (.func f) ua uc) (hf : P.funcs[f]? = some fn) (hb : fn.body = some c) (hn : fn.name ≠ "runtime.NumGoroutine") :
    (execOp a.eval o).run P w = .ok (.enter f (ua ++ args.map a.eval ++ uc)) w := by
  have := run_callee (P := P) (args := ua ++ args.map a.eval ++ uc) (w := w) hf hb hn
  simp only [Array.append_assoc] at this ⊢
  simp [execOp, ho, resolve, Deferred.ofValue, hx, invoke, this]
theorem okCallv_eq {s : S} {xs : List S} {op : Op} (h : okCallv P G s xs op = true) : ∃ x args ts, op = .call { callee := .value x, args, argTypes := ts } ∧ okS G s x = true ∧ okSs G xs args.toList = true := by
  unfold okCallv at h
  split at h
  · simp only [Bool.and_eq_true] at h
    exact ⟨_, _, _, rfl, h.1, h.2⟩
  · cases h
theorem arr_map (args : Array Operand) (f : Operand → Value) : args.map f = (args.toList.map f).toArray := by
  have := (args.map f).toArray_toList
  rw [Array.toList_map] at this
  exact this.symm

/-- lists of values, one behind the other -/
theorem reps_app {γ : Gh} {w : World} {vs vs' : List V} {us us' : List Value} (h : vs.length = us.length ∧ ∀ j, j < vs.length → RepV γ w (vs.getD j .und) (us.getD j undef)) (h' : vs'.length = us'.length ∧ ∀ j, j < vs'.length → RepV γ w (vs'.getD j .und) (us'.getD j undef)) :
    (vs ++ vs').length = (us ++ us').length ∧ ∀ j, j < (vs ++ vs').length → RepV γ w ((vs ++ vs').getD j .und) ((us ++ us').getD j undef) := by
  refine ⟨by simp [h.1, h'.1], fun j hj => ?_⟩
  simp only [List.getD_eq_getElem?_getD]
  by_cases hl : j < vs.length
  · rw [List.getElem?_append_left hl, List.getElem?_append_left (by rw [← h.1]; exact hl)]
    simpa [List.getD_eq_getElem?_getD] using h.2 j hl
  · rw [List.getElem?_append_right (by omega), List.getElem?_append_right (by rw [← h.1]; omega), ← h.1]
    have := h'.2 (j - vs.length) (by simp at hj; omega)
    simpa [List.getD_eq_getElem?_getD] using this
/-- A CALL: which function is entered with what -/
theorem call_enter {n N : Nat} {γ : Gh} {σ : St} {w : World} {e : Env} {a : Act} {ops : Array Oper} {i : AI} {o : Oper} {f : Nat} {vs : List V} {fn : Func} {c : Code} (hok : (match i.op with | .call f xs => okCall P G f xs o.op | .callv s xs => okCallv P G s xs o.op | ao => okOp P G ao o.op) = true) (hc : calleeOf e i.op = some (f, vs)) (hE : RepE γ w e a.tmps) (hI : Inv G N γ σ w)
    (hf : P.funcs[f]? = some fn) (hb : fn.body = some c) (hn : fn.name ≠ "runtime.NumGoroutine") :
    ∃ us : List Value, (execOp a.eval o).run P w = .ok (.enter f us.toArray) w ∧ vs.length = us.length ∧ ∀ j, j < vs.length → RepV γ w (vs.getD j .und) (us.getD j undef) := by
  have args : ∀ {xs : List S} {os : Array Operand}, okSs G xs os.toList = true → (xs.map (src e)).length = (os.toList.map a.eval).length ∧ ∀ j, j < (xs.map (src e)).length → RepV γ w ((xs.map (src e)).getD j .und) ((os.toList.map a.eval).getD j undef) := fun {xs os} hss => by
    obtain ⟨l1, g1⟩ := okSs_rep (a := a) hE hI hss
    refine ⟨by simpa using l1, fun j hj => ?_⟩
    have hjx : j < xs.length := by simpa using hj
    have hja : j < os.toList.length := by omega
    have := g1 j xs[j] os.toList[j] (List.getElem?_eq_getElem hjx) (List.getElem?_eq_getElem hja)
    rw [show (xs.map (src e)).getD j .und = src e xs[j] by simp [List.getD_eq_getElem?_getD, hjx], show (os.toList.map a.eval).getD j undef = a.eval os.toList[j] by rw [List.getD_eq_getElem?_getD, List.getElem?_map, List.getElem?_eq_getElem hja]; rfl]
    exact this
  generalize i.op = op at hok hc
  cases op with
  | call f' xs =>
    simp only [calleeOf] at hc
    cases hc
    obtain ⟨os, ts, hop, hss⟩ := okCall_eq hok
    refine ⟨os.toList.map a.eval, ?_, args hss⟩
    rw [run_call hop hf hb hn, arr_map]
  | callv s xs =>
    simp only [calleeOf] at hc
    split at hc
    · rename_i f' as cs hs
      cases hc
      obtain ⟨x, os, ts, hop, h1, hss⟩ := okCallv_eq hok
      have hr := okS_rep (a := a) h1 hE hI
      rw [hs] at hr
      obtain ⟨ua, uc, hu, hla, hlc, hra, hrc⟩ := repC_fn (repV_cell rfl hr)
      refine ⟨ua ++ os.toList.map a.eval ++ uc, ?_, reps_app (reps_app ⟨hla, fun j hj => repV_of (hra j hj)⟩ (args hss)) ⟨hlc, fun j hj => repV_of (hrc j hj)⟩⟩
      rw [run_callv hop hu hf hb hn, arr_map]
      simp
    · cases hc
  | _ => simp [calleeOf] at hc
end Go.Proofs.YtlehfgdhebapeaaDoor.KM
