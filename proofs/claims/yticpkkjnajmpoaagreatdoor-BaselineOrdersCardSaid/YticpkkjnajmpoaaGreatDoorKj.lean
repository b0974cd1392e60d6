/- append (second form). -/
import Derived.Test.YticpkkjnajmpoaaGreatDoorKi
import Derived.Lib.AppendStr
set_option linter.all false
namespace Go.Proofs.YticpkkjnajmpoaaGreatDoor.KM
open Go Go.RowKit
variable {P : Program} {G : List (Nat × List V)} {N : Nat} {γ : Gh} {σ σ1 : St} {w : World} {e : Env} {a : Act} {o : Oper} {v : V}

/-- cells in a list of values -/
def CellsIn (γ : Gh) (w : World) (cs : List V) (us : List Value) : Prop := cs.length = us.length ∧ ∀ j, j < cs.length → RepC γ w (cs.getD j .und) (us.getD j undef)
theorem CellsIn.ext {γ γ' : Gh} {w w' : World} {cs : List V} {us : List Value} (hx : Ext γ w γ' w') (h : CellsIn γ w cs us) : CellsIn γ' w' cs us := ⟨h.1, fun j hj => (h.2 j hj).ext hx⟩
theorem CellsIn.app {cs ds : List V} {us vs : List Value} (h : CellsIn γ w cs us) (g : CellsIn γ w ds vs) : CellsIn γ w (cs ++ ds) (us ++ vs) := by
  refine ⟨by simp [h.1, g.1], fun j hj => ?_⟩
  simp only [List.getD_eq_getElem?_getD]
  by_cases hl : j < cs.length
  · rw [List.getElem?_append_left hl, List.getElem?_append_left (by rw [← h.1]; exact hl)]
    simpa [List.getD_eq_getElem?_getD] using h.2 j hl
  · rw [List.getElem?_append_right (by omega), List.getElem?_append_right (by rw [← h.1]; omega), ← h.1]
    have := g.2 (j - cs.length) (by simp at hj; omega)
    simpa [List.getD_eq_getElem?_getD] using this
theorem CellsIn.one {cs : List V} {us : List Value} (h : CellsIn γ w cs us) : ∀ u ∈ us, u.oneCell' = true := by
  intro u hu
  obtain ⟨j, hj, rfl⟩ := List.getElem_of_mem hu
  have := (repC_none (h.2 j (by rw [h.1]; exact hj))).2
  simpa [List.getD_eq_getElem?_getD, hj] using this

theorem flat_len {m : Nat} : ∀ {xs : List (List V)}, (∀ i, i < xs.length → (xs.getD i []).length = m) → xs.flatten.length = xs.length * m
  | [], _ => by simp
  | x :: xs, h => by
    have h0 : x.length = m := by simpa using h 0 (by simp)
    rw [List.flatten_cons, List.length_append, flat_len (m := m) (xs := xs) (fun i hi => by simpa using h (i + 1) (by simpa using hi)), h0, List.length_cons, Nat.succ_mul]
    omega
theorem flat_get {m : Nat} : ∀ {xs : List (List V)}, (∀ i, i < xs.length → (xs.getD i []).length = m) → ∀ i j, i < xs.length → j < m → xs.flatten.getD (i * m + j) .und = (xs.getD i []).getD j .und
  | [], _, i, j, hi, _ => by simp at hi
  | x :: xs, h, i, j, hi, hj => by
    have h0 : x.length = m := by simpa using h 0 (by simp)
    have hr : ∀ i, i < xs.length → (xs.getD i []).length = m := fun i hi => by simpa using h (i + 1) (by simpa using hi)
    cases i with
    | zero =>
      simp only [List.getD_eq_getElem?_getD, List.flatten_cons, Nat.zero_mul, Nat.zero_add]
      rw [List.getElem?_append_left (by omega)]
      rfl
    | succ i =>
      have ih := flat_get hr i j (by simpa using hi) hj
      simp only [List.getD_eq_getElem?_getD, List.flatten_cons] at ih ⊢
      rw [List.getElem?_append_right (by rw [h0, Nat.succ_mul]; omega), show (i + 1) * m + j - x.length = i * m + j by rw [h0, Nat.succ_mul]; omega, ih]
      simp
theorem chop_flat (m : Nat) : ∀ (n : Nat) (cs : List V), n * m ≤ cs.length → (chop m n cs).flatten = cs.take (n * m)
  | 0, cs, _ => by simp [chop]
  | n + 1, cs, h => by
    rw [Nat.succ_mul] at h
    rw [chop, List.flatten_cons, chop_flat m n _ (by simp; omega), Nat.succ_mul, Nat.add_comm (n * m) m, List.take_add]
/-- a settled slice's cells, as a list -/
theorem cells_of_lst {xs : List (List V)} {ad : Addr} {cap m : Nat} (hm : 0 < m) (hw : ∀ i, i < xs.length → (xs.getD i []).length = m) (h : RepR γ.κ w (.lst 0 xs) (.slice (some ad) xs.length cap)) :
    ∃ us : List Value, CellsIn γ w xs.flatten us ∧ ∀ j u, us[j]? = some u → w.cell? (ad.add j) = some u := by
  cases h with
  | @lst _ _ _ _ m' row h1 h2 h3 h4 h5 h6 h7 =>
  have H4 := Lib.hid h4
  clear h4
  have hmm : 0 < xs.length → m' = m := fun hl => by rw [← h5 0 hl, hw 0 hl]
  refine ⟨(List.range (xs.length * m)).map fun q => row (q / m) (q % m), ⟨by rw [flat_len hw]; simp, fun j hj => ?_⟩, fun j u hj => ?_⟩
  · rw [flat_len hw] at hj
    have hl : 0 < xs.length := by
      rcases Nat.eq_zero_or_pos xs.length with h | h
      · rw [h] at hj; simp at hj
      · exact h
    obtain rfl := hmm hl
    have hd : j / m' < xs.length := Nat.div_lt_of_lt_mul (by rw [Nat.mul_comm]; exact hj)
    have hr : j % m' < m' := Nat.mod_lt _ hm
    have hdm : j / m' * m' + j % m' = j := by rw [Nat.mul_comm]; exact Nat.div_add_mod j m'
    have e0 := flat_get hw (j / m') (j % m') hd hr
    rw [hdm] at e0
    rw [e0]
    have e1 : ((List.range (xs.length * m')).map fun q => row (q / m') (q % m')).getD j undef = row (j / m') (j % m') := by
      simp [List.getD_eq_getElem?_getD, hj]
    rw [e1]
    exact .row (h7 _ _ hd hr)
  · have hj' : j < xs.length * m := by
      have := (List.getElem?_eq_some_iff.1 hj).1
      simpa using this
    have hl : 0 < xs.length := by
      rcases Nat.eq_zero_or_pos xs.length with h | h
      · rw [h] at hj'; simp at hj'
      · exact h
    obtain rfl := hmm hl
    have hs := (H4.out hl).1
    have hd : j / m' < xs.length := Nat.div_lt_of_lt_mul (by rw [Nat.mul_comm]; exact hj')
    have hr : j % m' < m' := Nat.mod_lt _ hm
    have hc := h6 (j / m') (j % m') hd hr
    have hdm : j / m' * m' + j % m' = j := by rw [Nat.mul_comm]; exact Nat.div_add_mod j m'
    rw [Nat.add_assoc, hdm] at hc
    simp [hj'] at hj
    subst hj
    obtain ⟨b, of, sp⟩ := ad
    simp at hs
    subst hs
    rw [add_none]
    exact hc

theorem below_drew_alloc {o : Obj} (h : N ≤ w.heap.size) : Below N w (w.drew.alloc o) := ((Below.refl N w).drew).alloc h o
theorem getD_arr {us : List Value} {pad : Array Value} {j : Nat} (h : j < us.length) : (us.toArray ++ pad).getD j undef = us.getD j undef := by
  rw [Array.getD_eq_getD_getElem?, Array.getElem?_append_left (by simpa using h), List.getElem?_toArray, List.getD_eq_getElem?_getD]

/-- a new object behind a draw -/
theorem grown_ok {cs : List V} {us : List Value} {pad : Array Value} {el : TypeId} {n cap m : Nat} {r : Result Next} (hI : Inv G N γ σ w) (hc : CellsIn γ w cs us) (hn : n ≤ cap) (hcm : cap ≤ maxLen) (hsz : (us.toArray ++ pad).size = cap * m)
    (h : r = .ok (.value (.slice (some ⟨w.heap.size, 0, none⟩) n cap)) (w.drew.alloc (.cells (us.toArray ++ pad) el))) : OpOk P G N γ σ w r (.sl σ.length 0 0 n m true) (σ ++ [.row cs el 0 0]) := by
  obtain ⟨d1, d2⟩ := hI.drew
  obtain ⟨i1, i2⟩ := d1.newRow (us.toArray ++ pad) el cs (by rw [hc.1]; simp) (fun j hj => by
    rw [getD_arr (by rw [← hc.1]; exact hj)]
    exact (hc.2 j hj).ext d2)
  refine ⟨_, _, _, .inl h, repV_of (sl_rep ?_ ?_ hn hcm), i1, d2.trans i2, below_drew_alloc hI.base, fun b hb => kset_other _ _ (by have := hI.base; show b ≠ w.heap.size; omega)⟩
  · show (γ.O ++ [(w.heap.size, 0)])[σ.length]? = _
    rw [← hI.len]; simp
  · have := size_new w.drew (us.toArray ++ pad) el (0, 0)
    rw [show w.drew.heap.size = w.heap.size from rfl] at this
    rw [this, hsz]

/-- THE THREE WAYS OF AN APPEND -/
theorem app_ok {x : V} {ux : Value} {ys : List (List V)} {news : List Value} {m bytes : Nat} {el : TypeId} {r : Result Next} (hI : Inv G N γ σ w) (hx : RepV γ w x ux) (hy : CellsIn γ w ys.flatten news)
    (rzero : ys.length = 0 → ∀ (b : Option Addr) (n c : Nat), n ≤ c → ux = .slice b n c → r = .ok (.value (.slice b n c)) w)
    (rnil : 0 < ys.length → ys.length * bytes ≤ 140737488355328 → ux = .slice none 0 0 → ∃ cap pad, r = .ok (.value (.slice (some ⟨w.heap.size, 0, none⟩) ys.length cap)) (w.drew.alloc (.cells (news.toArray ++ pad) el)) ∧ ys.length ≤ cap ∧ cap ≤ maxLen ∧ (news.toArray ++ pad).size = cap * m)
    (rroom : ∀ (g n cap : Nat) (cur : Array Value) (e' : TypeId) (fz : Nat × Nat), w.heap[g]? = some (.cells cur e' fz) → (fz.2 ≤ n * m ∨ cur.size ≤ fz.1) → 0 < ys.length → n + ys.length ≤ cap → cur.size = cap * m → ux = .slice (some ⟨g, 0, none⟩) n cap →
      r = .ok (.value (.slice (some ⟨g, 0, none⟩) (n + ys.length) cap)) (w.setRow g (cur.toList.take (n * m) ++ news ++ cur.toList.drop (n * m + news.length)).toArray))
    (rgrow : ∀ (b : Addr) (n cap : Nat) (olds : List Value), olds.length = n * m → (∀ j u, olds[j]? = some u → w.cell? (b.add j) = some u) → 0 < ys.length → cap < n + ys.length → (n + ys.length) * bytes ≤ 140737488355328 → n + ys.length ≤ maxLen → ux = .slice (some b) n cap →
      ∃ cap' pad, r = .ok (.value (.slice (some ⟨w.heap.size, 0, none⟩) (n + ys.length) cap')) (w.drew.alloc (.cells (olds.toArray ++ news.toArray ++ pad) el)) ∧ n + ys.length ≤ cap' ∧ cap' ≤ maxLen ∧ (olds.toArray ++ news.toArray ++ pad).size = cap' * m)
    (hb63 : ∀ k, k * bytes ≤ 140737488355328 → k ≤ maxLen)
    (h : appR bytes (m, el) σ x ys = some (v, σ1)) : OpOk P G N γ σ w r v σ1 := by
  have hempty : ys.isEmpty = true ↔ ys.length = 0 := by cases ys <;> simp
  unfold appR at h
  split at h
  · rename_i hall0
    obtain ⟨hall, hm⟩ := hall0
    have hm : 0 < m := hm
    have hwy : ∀ i, i < ys.length → (ys.getD i []).length = m := fun i hi => by
      have := List.all_eq_true.1 hall (ys.getD i []) (by rw [List.getD_eq_getElem?_getD, List.getElem?_eq_getElem hi]; exact List.getElem_mem hi)
      exact eq_of_beq this
    have hnl : news.length = ys.length * m := by rw [← hy.1, flat_len hwy]
    split at h
    · have hu := repC_nils (repV_cell rfl hx)
      split at h
      · rename_i hbytes
        split at h
        · rename_i hy0
          cases h
          exact ok_pure hI (rzero (hempty.1 hy0) none 0 0 (Nat.le_refl _) hu) (repV_of (.row .nils))
        · rename_i hy0
          cases h
          have hpos : 0 < ys.length := Nat.pos_of_ne_zero fun h => hy0 (hempty.2 h)
          obtain ⟨cap, pad, hr, hc1, hc2, hc3⟩ := rnil hpos hbytes hu
          exact grown_ok hI hy hc1 hc2 hc3 hr
      · cases h
    · rename_i t xs
      have hxc := repV_cell rfl hx
      obtain ⟨ad, cap, hu, hR, hcap1⟩ := repC_lst hxc
      split at h
      · rename_i hbytes
        split at h
        · rename_i hy0
          cases h
          exact ok_pure hI (rzero (hempty.1 hy0) _ _ _ (by cases hR with | lst row h1 h2 h3 => exact h2) hu) (by rw [← hu]; exact hx)
        · rename_i hy0
          have hpos : 0 < ys.length := Nat.pos_of_ne_zero fun h => hy0 (hempty.2 h)
          split at h
          · rename_i ht
            cases h
            have hw : ∀ i, i < xs.length → (xs.getD i []).length = m := fun i hi => by
              have := List.all_eq_true.1 ht.2 (xs.getD i []) (by rw [List.getD_eq_getElem?_getD, List.getElem?_eq_getElem hi]; exact List.getElem_mem hi)
              exact eq_of_beq this
            obtain ⟨olds, ho1, ho2⟩ := cells_of_lst hm hw hR
            have hc0 := hcap1 ht.1
            obtain ⟨cap', pad, hr, hc1, hc2, hc3⟩ := rgrow ad xs.length cap olds (by rw [← ho1.1, flat_len hw]) ho2 hpos (by omega) hbytes (hb63 _ hbytes) hu
            rw [show olds.toArray ++ news.toArray = (olds ++ news).toArray by simp] at hr hc3
            exact grown_ok hI (ho1.app hy) hc1 hc2 hc3 hr
          · cases h
      · cases h
    · rename_i i g off len m' own
      have hxc := repV_cell rfl hx
      split at h
      · rename_i hbm
        obtain ⟨hbytes, hmm⟩ := hbm
        obtain rfl : m = m' := Eq.symm hmm
        split at h
        · rename_i cs ee g' z hcs
          split at h
          · rename_i hg
            subst hg
            obtain ⟨blk, cap, o', hb, hu, ho', hsz, hcap, hmax⟩ := live_sl (o' := 0) hI hxc (by simp [eqLive, hcs])
            obtain ⟨_, hkz, hzl, us, lo, hi, g1, ⟨_, gfr⟩, g2, g3⟩ := hI.obj i _ _ hcs hb
            split at h
            · rename_i hy0
              cases h
              exact ok_pure hI (rzero (hempty.1 hy0) _ _ _ hcap hu) (by rw [← hu]; exact hx)
            · rename_i hy0
              have hpos : 0 < ys.length := Nat.pos_of_ne_zero fun h => hy0 (hempty.2 h)
              split at h
              · rename_i hc
                obtain ⟨hown, rfl, hel, hzlen⟩ := hc
                obtain rfl : el = ee := Eq.symm hel
                have hus : us.size = cap * m := by have := hsz hown; simp [sizeOf?, g1] at this; exact this
                have g1 : w.heap[blk]? = some (.cells us el (lo, hi)) := g1
                have hadd : (len + ys.length) * m = len * m + ys.length * m := Nat.add_mul _ _ _
                have hfr : hi ≤ len * m ∨ us.size ≤ lo := by
                  rcases gfr with h | h
                  · exact .inl (by omega)
                  · exact .inr h
                have gcell : ∀ j, j < cs.length → RepC γ w (cs.getD j .und) (us.toList.getD j undef) := fun j hj => by
                  have := g3 j hj
                  simpa [Array.getD_eq_getD_getElem?, List.getD_eq_getElem?_getD] using this
                split at h
                · -- within what it has
                  rename_i hin
                  cases h
                  have hroom : len + ys.length ≤ cap := Nat.le_of_mul_le_mul_right (by omega) hm
                  have hu' : ux = .slice (some ⟨blk, 0, none⟩) len cap := by rw [hu, ho' (by omega)]
                  have hr := rroom blk len cap us el (lo, hi) g1 hfr hpos hroom hus hu'
                  have hsz3 : ((us.toList.take (len * m) ++ news ++ us.toList.drop (len * m + news.length)).toArray).size = us.size := by simp; omega
                  have hcl : (cs.take (len * m) ++ ys.flatten ++ cs.drop ((len + ys.length) * m)).length = cs.length := by
                    rw [List.length_append, List.length_append, hy.1, hnl]; simp; omega
                  obtain ⟨i1, i2⟩ := hI.write (us' := (us.toList.take (len * m) ++ news ++ us.toList.drop (len * m + news.length)).toArray) (cs' := cs.take (len * m) ++ ys.flatten ++ cs.drop ((len + ys.length) * m)) (g' := g) hb hcs g1 ⟨by assumption, gfr⟩ (Nat.le_refl _) (by omega) hsz3 (by omega) (fun q hq => by
                    rw [List.getElem?_toArray, seg_get _ _ _ _ (by simp; omega), if_pos (by omega), Array.getElem?_toList]) (fun j hj => by
                    rw [hcl] at hj
                    rw [Array.getD_eq_getD_getElem?, List.getElem?_toArray, List.getD_eq_getElem?_getD, hadd, show ys.length * m = ys.flatten.length by rw [flat_len hwy], seg_get _ _ _ _ (by rw [hy.1, hnl]; omega), seg_get _ _ _ _ (by simp; omega), hy.1]
                    split
                    · have := gcell j hj
                      simpa [List.getD_eq_getElem?_getD] using this
                    · split
                      · have := hy.2 (j - len * m) (by rw [hy.1]; omega)
                        simpa [List.getD_eq_getElem?_getD] using this
                      · have := gcell j hj
                        simpa [List.getD_eq_getElem?_getD] using this)
                  rw [show (blk, g).1 = blk from rfl, set_same hb] at i1 i2
                  refine ⟨_, _, _, .inl hr, repV_of (.sl hb (Nat.le_refl _) hroom hmax (fun _ => rfl) (fun _ => ⟨rfl, fun _ => ?_⟩)), i1, i2, below_setRow _ (hI.low _ _ hb), fun _ _ => rfl⟩
                  rw [size_setRow w blk g1 hsz3, hsz hown]
                · split at h
                  · rename_i hnin hend
                    cases h
                    have hcl : (cs ++ ys.flatten).length = (len + ys.length) * m := by rw [List.length_append, hy.1, hnl, hend, hadd]
                    have holds : us.toList.take (len * m) = us.toList.take cs.length := by rw [hend]
                    have hcin : CellsIn γ w cs (us.toList.take (len * m)) := ⟨by simp; omega, fun j hj => by
                      have := gcell j hj
                      simpa [List.getD_eq_getElem?_getD, List.getElem?_take, show j < len * m by omega] using this⟩
                    by_cases hroom : len + ys.length ≤ cap
                    · -- grown in its place
                      have hu' : ux = .slice (some ⟨blk, 0, none⟩) len cap := by rw [hu, ho' (by omega)]
                      have hr := rroom blk len cap us el (lo, hi) g1 hfr hpos hroom hus hu'
                      have hmul : (len + ys.length) * m ≤ cap * m := Nat.mul_le_mul_right _ hroom
                      have hsz3 : ((us.toList.take (len * m) ++ news ++ us.toList.drop (len * m + news.length)).toArray).size = us.size := by simp; omega
                      obtain ⟨i1, i2⟩ := hI.write (us' := (us.toList.take (len * m) ++ news ++ us.toList.drop (len * m + news.length)).toArray) (cs' := cs ++ ys.flatten) (g' := g + 1) hb hcs g1 ⟨by assumption, gfr⟩ (by omega) (by omega) hsz3 (by omega) (fun q hq => by
                        rw [List.getElem?_toArray, seg_get _ _ _ _ (by simp; omega), if_pos (by omega), Array.getElem?_toList]) (fun j hj => by
                        have := (hcin.app hy).2 j hj
                        have hj2 : j < (us.toList.take (len * m) ++ news).length := by rw [← (hcin.app hy).1]; exact hj
                        rw [Array.getD_eq_getD_getElem?, List.getElem?_toArray, List.getElem?_append_left hj2]
                        simpa [List.getD_eq_getElem?_getD] using this)
                      refine ⟨_, _, _, .inl hr, repV_of (.sl (blk := blk) (g' := g + 1) ?_ (Nat.le_refl _) hroom hmax (fun _ => rfl) (fun _ => ⟨rfl, fun _ => ?_⟩)), i1, i2, below_setRow _ (hI.low _ _ hb), fun _ _ => rfl⟩
                      · show (γ.O.set i (blk, g + 1))[i]? = _
                        rw [List.getElem?_set_self (List.getElem?_eq_some_iff.1 hb).1]
                      · rw [size_setRow w blk g1 hsz3, hsz hown]
                    · -- moved
                      have hcell : ∀ j u, (us.toList.take (len * m))[j]? = some u → w.cell? ((⟨blk, o', none⟩ : Addr).add j) = some u := fun j u hj => by
                        have hjl : j < len * m := by have := (List.getElem?_eq_some_iff.1 hj).1; simp at this; omega
                        have hlen0 : 0 < len := by
                          rcases Nat.eq_zero_or_pos len with h | h
                          · rw [h] at hjl; simp at hjl
                          · exact h
                        rw [ho' (by omega), add_none]
                        rw [List.getElem?_take, if_pos hjl, Array.getElem?_toList] at hj
                        simpa [World.cell?, g1] using hj
                      obtain ⟨cap', pad, hr, hc1, hc2, hc3⟩ := rgrow ⟨blk, o', none⟩ len cap (us.toList.take (len * m)) (by simp; omega) hcell hpos (by omega) hbytes (hb63 _ hbytes) hu
                      rw [show (us.toList.take (len * m)).toArray ++ news.toArray = (us.toList.take (len * m) ++ news).toArray from (List.append_toArray _ _)] at hr hc3
                      obtain ⟨d1, d2⟩ := hI.drew
                      have hcc := hcin.app hy
                      obtain ⟨i1, i2⟩ := d1.moved (us' := (us.toList.take (len * m) ++ news).toArray ++ pad) (cs' := cs ++ ys.flatten) hb hcs (by omega) (by rw [hcc.1]; simp only [Array.size_append, List.size_toArray]; omega) (fun j hj => by
                        rw [getD_arr (by rw [← hcc.1]; exact hj)]
                        exact (hcc.2 j hj).ext d2)
                      refine ⟨_, _, _, .inl hr, repV_of (.sl (blk := w.heap.size) (g' := g + 1) ?_ (Nat.le_refl _) hc1 hc2 (fun _ => rfl) (fun _ => ⟨rfl, fun _ => ?_⟩)), i1, d2.trans i2, below_drew_alloc hI.base, fun b hb => kset_other _ _ (by have := hI.base; show b ≠ w.heap.size; omega)⟩
                      · show (γ.O.set i (w.heap.size, g + 1))[i]? = _
                        rw [List.getElem?_set_self (List.getElem?_eq_some_iff.1 hb).1]
                      · have := size_new w.drew ((us.toList.take (len * m) ++ news).toArray ++ pad) el (0, 0)
                        rw [show w.drew.heap.size = w.heap.size from rfl] at this
                        rw [this, hc3, Nat.zero_add]
                  · cases h
              · cases h
          · cases h
        · cases h
      · cases h
    · cases h
  · cases h
end Go.Proofs.YticpkkjnajmpoaaGreatDoor.KM
