/- Walks: baselines that are read line by line: lists of entries that grow, with site lists that grow. -/
import Derived.Test.YtlehfgdhebapeaaGreatDoorYr
import Derived.Test.YtlehfgdhebapeaaGreatDoorZd
set_option linter.all false
namespace Go.Proofs.YtlehfgdhebapeaaGreatDoor.KM
open Go
def PG (s : St) (lo : Nat) (u : V) (L : List (V × Ent)) : Prop := GW s 4 131 lo u (L.map nrow) ∧ (∀ p ∈ L, GW s 3 52 lo p.1 (p.2.sites.map krow)) ∧ L.Pairwise fun p q => ∀ i ∈ p.1.refs, i ∉ q.1.refs
theorem pg_ocs {s : St} {lo : Nat} : ∀ {L : List (V × Ent)}, (∀ p ∈ L, GW s 3 52 lo p.1 (p.2.sites.map krow)) → OCs s (L.map nrow).flatten (ownL L).flatten
  | [], _ => .nil
  | p :: L, h => by
    have h1 := gw_oc (h p List.mem_cons_self) (by omega) (krows_len _) (krows_row _)
    exact .cons (oc_row rfl) (.cons h1 (.cons (oc_row rfl) (.cons (oc_row rfl) (pg_ocs fun q hq => h q (List.mem_cons_of_mem _ hq)))))
theorem pg_on {s : St} {lo : Nat} {u : V} {L : List (V × Ent)} (h : PG s lo u L) : ON s u (SL true 0 (ownL L)) := by
  obtain ⟨h1 | ⟨hn, i, g, rfl, ho, hlo⟩, h2, -⟩ := h
  · obtain ⟨rfl, h1⟩ := h1
    obtain rfl : L = [] := by simpa using h1
    exact on_oc (oc_row rfl)
  · have hn' : ownL L ≠ [] := by
      intro e
      apply hn
      have : L = [] := by simpa [ownL] using e
      rw [this]
      rfl
    rw [sl_ne hn']
    exact on_sl ho (by omega) (nrows_len L) (pg_ocs h2) (ownL_len L) (by simp [ownL])
theorem pg_keep {s s' : St} {lo : Nat} {u : V} {L : List (V × Ent)} (h : PG s lo u L) (hk : ∀ j, lo ≤ j → j < s.length → s'[j]? = s[j]?) : PG s' lo u L := by
  have hg : ∀ {m e : Nat} {w : V} {ys : List (List V)}, GW s m e lo w ys → GW s' m e lo w ys := by
    intro m e w ys hw
    rcases hw with hw | ⟨hn, j, g, rfl, ho, hlo⟩
    · exact .inl hw
    · exact .inr ⟨hn, j, g, rfl, (hk j hlo (List.getElem?_eq_some_iff.1 ho).1).trans ho, hlo⟩
  exact ⟨hg h.1, fun p hp => hg (h.2.1 p hp), h.2.2⟩
theorem pg_nil {s : St} {lo : Nat} : PG s lo .nils [] := ⟨gw_nil, (fun p hp => by cases hp), List.Pairwise.nil⟩
theorem pg_refs {s : St} {lo : Nat} : ∀ {L : List (V × Ent)}, (∀ p ∈ L, GW s 3 52 lo p.1 (p.2.sites.map krow)) → ∀ i ∈ refsL (L.map nrow).flatten, i < s.length
  | [], _, i, hi => by cases hi
  | p :: L, h, i, hi => by
    simp only [List.map_cons, List.flatten_cons, refs_app, nrow, refsL, V.refs, List.nil_append, List.append_nil, List.mem_append] at hi
    rcases hi with hi | hi
    · exact gw_refs (h p List.mem_cons_self) i hi
    · exact pg_refs (fun q hq => h q (List.mem_cons_of_mem _ hq)) i (by simpa only [refsL, V.refs] using hi)
/-- one more entry, without sites -/
theorem pg_ent {s : St} {lo : Nat} {u : V} {L : List (V × Ent)} (h : PG s lo u L) (hlo : lo ≤ s.length) (hc : Cl s) (hb : L.length ≤ 1000000) (a b c : Int) :
    ∃ u' s', appV 48 (4, 131) u (.lst 1 [[.int .i64 a, .nils, .int .i64 b, .int .i64 c]]) s = some (u', s') ∧ PG s' lo u' (L ++ [(.nils, nEnt a b c)]) ∧ s.length ≤ s'.length ∧ Cl s' ∧ ∀ j, j < lo → s'[j]? = s[j]? := by
  have hy : srcRows s 4 (.lst 1 [[.int .i64 a, .nils, .int .i64 b, .int .i64 c]]) = some [nrow (.nils, nEnt a b c)] := rfl
  obtain ⟨u', s', e1, g1, l1, f0, f1⟩ := gw_app (bytes := 48) h.1 hlo hy (by omega) (nrows_len L) (nrows_len [(.nils, nEnt a b c)]) (by simp; omega)
  have hu := gw_shape h.1
  have hall : ∀ p ∈ L ++ [(V.nils, nEnt a b c)], GW s' 3 52 lo p.1 (p.2.sites.map krow) := by
    intro p hp
    rcases List.mem_append.1 hp with hp | hp
    · exact gw_other (by omega) hu (h.2.1 p hp) f0
    · obtain rfl := List.mem_singleton.1 hp
      exact gw_nil
  refine ⟨u', s', e1, ⟨by rw [List.map_append]; exact g1, hall, ?_⟩, l1, gw_app_cln h.1 hy e1 (pg_refs h.2.1) (by simp [nrow, refsL, V.refs]) hc, f1⟩
  rw [List.pairwise_append]
  refine ⟨h.2.2, List.pairwise_singleton _ _, fun p _ q hq i _ => ?_⟩
  rw [List.mem_singleton.1 hq]
  simp [V.refs]
theorem cells_last (M : List (V × Ent)) (p : V × Ent) (w : V) : ((M ++ [p]).map nrow).flatten.take (M.length * 4 + 1) ++ w :: ((M ++ [p]).map nrow).flatten.drop (M.length * 4 + 1 + 1) = ((M ++ [(w, p.2)]).map nrow).flatten := by
  have hl := flatL_len (nrows_len M)
  rw [List.length_map] at hl
  simp only [List.map_append, List.flatten_append, List.map_cons, List.map_nil, List.flatten_cons, List.flatten_nil, List.append_nil]
  rw [List.take_append, List.drop_append, hl, show M.length * 4 + 1 - M.length * 4 = 1 by omega, show M.length * 4 + 1 + 1 - M.length * 4 = 2 by omega, List.take_of_length_le (show (M.map nrow).flatten.length ≤ M.length * 4 + 1 by omega), List.drop_eq_nil_of_le (show (M.map nrow).flatten.length ≤ M.length * 4 + 1 + 1 by omega)]
  simp [nrow]
/-- the last entry has one more site -/
theorem pg_site {s : St} {lo : Nat} {u : V} {M : List (V × Ent)} {p : V × Ent} (h : PG s lo u (M ++ [p])) (hlo : lo ≤ s.length) (hc : Cl s) (k : Key) (hb : p.2.sites.length ≤ 1000000) :
    ∃ iu g w' s1, u = .sl iu g 0 (M.length + 1) 4 true ∧ lo ≤ iu ∧ s[iu]? = some (.row ((M ++ [p]).map nrow).flatten 131 g 0) ∧ appV 40 (3, 52) p.1 (.lst 1 [krow k]) s = some (w', s1) ∧ w'.cellB = true ∧ s1[iu]? = some (.row ((M ++ [p]).map nrow).flatten 131 g 0) ∧ s.length ≤ s1.length ∧ (∀ j, j < lo → s1[j]? = s[j]?) ∧
      PG (s1.set iu (.row (((M ++ [p]).map nrow).flatten.take (M.length * 4 + 1) ++ w' :: ((M ++ [p]).map nrow).flatten.drop (M.length * 4 + 1 + 1)) 131 g 0)) lo u (M ++ [(w', { p.2 with sites := p.2.sites ++ [k] })]) ∧
      Cl (s1.set iu (.row (((M ++ [p]).map nrow).flatten.take (M.length * 4 + 1) ++ w' :: ((M ++ [p]).map nrow).flatten.drop (M.length * 4 + 1 + 1)) 131 g 0)) := by
  obtain ⟨h1, h2, h3⟩ := h
  have hp := h2 p (by simp)
  rcases h1 with ⟨-, h0⟩ | ⟨hn, iu, g, rfl, ho, hlo1⟩
  · simp at h0
  have hy : srcRows s 3 (.lst 1 [krow k]) = some [krow k] := rfl
  obtain ⟨w', s1, e1, g1, l1, f0, f1⟩ := gw_app (bytes := 40) hp hlo hy (by omega) (krows_len _) (by simp [krow]) (by simp; omega)
  have hw := gw_shape hp
  have hil := (List.getElem?_eq_some_iff.1 ho).1
  have hiu : ∀ i g, p.1 = .sl i g 0 (p.2.sites.map krow).length 3 true → iu ≠ i := by
    rintro i g' he rfl
    rcases hp with ⟨hp, -⟩ | ⟨-, i2, g2, hp, ho2, -⟩
    · rw [hp] at he; cases he
    · rw [hp] at he
      cases he
      have h := ho.symm.trans ho2
      simp only [Option.some.injEq, Ob.row.injEq] at h
      exact absurd h.2.1 (by decide)
  have ho1 : s1[iu]? = some (.row ((M ++ [p]).map nrow).flatten 131 g 0) := (f0 iu hiu hil).trans ho
  have hc1 : Cl s1 := gw_app_cln hp hy e1 (fun i hi => by rw [refsL_row (rows_all (krows_row _))] at hi; cases hi) (fun i hi => by simp [krow, refsL, V.refs] at hi) hc
  have hwc := gw_cell g1
  have hsame : ((M ++ [(w', p.2)]).map nrow) = ((M ++ [(w', { p.2 with sites := p.2.sites ++ [k] })]).map nrow) := by simp [nrow]
  have hM : ∀ q ∈ M, GW s1 3 52 lo q.1 (q.2.sites.map krow) := fun q hq => by
    have hq1 := h2 q (by simp [hq])
    rcases hq1 with hq1 | ⟨hn1, j, g1, hj, hoj, hloj⟩
    · exact .inl hq1
    · refine .inr ⟨hn1, j, g1, hj, ?_, hloj⟩
      rw [f0 j ?_ (List.getElem?_eq_some_iff.1 hoj).1]
      · exact hoj
      · rintro i g' he rfl
        rw [List.pairwise_append] at h3
        have := h3.2.2 q hq p (by simp) j (by rw [hj]; simp [V.refs])
        rw [he] at this
        simp [V.refs] at this
  have hall : ∀ q ∈ M ++ [(w', { p.2 with sites := p.2.sites ++ [k] })], GW s1 3 52 lo q.1 (q.2.sites.map krow) := fun q hq => by
    rcases List.mem_append.1 hq with hq | hq
    · exact hM q hq
    · rw [List.mem_singleton.1 hq]
      simp only [List.map_append, List.map_cons, List.map_nil]
      exact g1
  refine ⟨iu, g, w', s1, by simp, hlo1, ho, e1, hwc, ho1, l1, f1, ?_, ?_⟩ <;> rw [cells_last, hsame]
  rotate_left
  · refine cl_set hc1 fun i hi => ?_
    exact pg_refs hall i hi
  refine ⟨.inr ⟨by simp, iu, g, by simp, by rw [List.getElem?_set_self (by omega)], hlo1⟩, fun q hq => gw_set_ty (hall q hq) ho1 (by omega), ?_⟩
  · rw [List.pairwise_append] at h3 ⊢
    refine ⟨h3.1, List.pairwise_singleton _ _, fun q hq r hr i hi => ?_⟩
    rw [List.mem_singleton.1 hr]
    intro hi2
    have hq1 := gw_refs (h2 q (by simp [hq])) i hi
    have hpi := h3.2.2 q hq p (by simp) i hi
    have : ∀ i ∈ w'.refs, i ∈ p.1.refs ∨ s.length ≤ i := by
      intro i hi
      unfold appV at e1
      simp only [hy, Option.bind_some] at e1
      unfold appR at e1
      split at e1
      · rcases hp with ⟨hp0, -⟩ | ⟨-, ip, gp, hp0, hop, -⟩
        · rw [hp0] at e1
          simp only at e1
          split at e1
          · simp at e1
            rw [← e1.1] at hi
            simp [V.refs] at hi
            omega
          · cases e1
        · rw [hp0] at e1 ⊢
          simp only at e1
          split at e1
          · simp only [hop, if_true] at e1
            split at e1
            · rename_i he; simp at he
            · split at e1
              · split at e1
                · simp at e1
                  rw [← e1.1] at hi
                  left
                  simpa [V.refs] using hi
                · split at e1
                  · simp at e1
                    rw [← e1.1] at hi
                    left
                    simpa [V.refs] using hi
                  · cases e1
              · cases e1
          · cases e1
      · cases e1
    rcases this i hi2 with h | h
    · exact hpi h
    · omega
end Go.Proofs.YtlehfgdhebapeaaGreatDoor.KM
