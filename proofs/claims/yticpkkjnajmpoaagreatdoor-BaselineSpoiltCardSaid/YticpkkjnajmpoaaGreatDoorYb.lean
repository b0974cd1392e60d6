/- Entries with lists of their own: one more. -/
import Derived.Test.YticpkkjnajmpoaaGreatDoorYa
set_option linter.all false
namespace Go.Proofs.YticpkkjnajmpoaaGreatDoor.KM
open Go
theorem refs_take (a : List V) (k : Nat) : ∀ i ∈ refsL (a.take k), i ∈ refsL a := by
  intro i hi
  have := refs_app (a.take k) (a.drop k)
  rw [List.take_append_drop] at this
  rw [this]
  exact List.mem_append_left _ hi
theorem refs_drop (a : List V) (k : Nat) : ∀ i ∈ refsL (a.drop k), i ∈ refsL a := by
  intro i hi
  have := refs_app (a.take k) (a.drop k)
  rw [List.take_append_drop] at this
  rw [this]
  exact List.mem_append_right _ hi
theorem gw_app_cln {σ σ' : St} {m e lo bytes : Nat} {u u' y : V} {xs ys : List (List V)} (h : GW σ m e lo u xs) (hy : srcRows σ m y = some ys) (ha : appV bytes (m, e) u y σ = some (u', σ')) (hx : ∀ i ∈ refsL xs.flatten, i < σ.length) (hz : ∀ i ∈ refsL ys.flatten, i < σ.length) (hc : Cl σ) : Cl σ' := by
  unfold appV at ha
  simp only [hy, Option.bind_some] at ha
  unfold appR at ha
  split at ha
  · rcases h with ⟨rfl, rfl⟩ | ⟨hn, i, g, rfl, ho, hlo⟩
    · simp only at ha
      split at ha
      · split at ha
        · cases ha; exact hc
        · cases ha; exact cl_push hc fun i hi => Nat.lt_succ_of_lt (hz i hi)
      · cases ha
    · simp only at ha
      split at ha
      · simp only [ho, if_true] at ha
        split at ha
        · cases ha; exact hc
        · split at ha
          · split at ha
            · cases ha
              refine cl_set hc fun j hj => ?_
              simp only [Ob.refs, refs_app, List.mem_append] at hj
              rcases hj with (hj | hj) | hj
              · exact hx j (refs_take _ _ j hj)
              · exact hz j hj
              · exact hx j (refs_drop _ _ j hj)
            · split at ha
              · cases ha
                refine cl_set hc fun j hj => ?_
                simp only [Ob.refs, refs_app, List.mem_append] at hj
                rcases hj with hj | hj
                · exact hx j hj
                · exact hz j hj
              · cases ha
          · cases ha
      · cases ha
  · cases ha
theorem ng_refs {s : St} {lo : Nat} : ∀ {L : List (V × Ent)}, (∀ p ∈ L, p.2.sites ≠ [] ∧ GW s 3 41 lo p.1 (p.2.sites.map krow)) → ∀ i ∈ refsL (L.map nrow).flatten, i < s.length
  | [], _, i, hi => by cases hi
  | p :: L, h, i, hi => by
    simp only [List.map_cons, List.flatten_cons, refs_app, nrow, refsL, V.refs, List.nil_append, List.append_nil, List.mem_append] at hi
    rcases hi with hi | hi
    · exact gw_refs (h p List.mem_cons_self).2 i hi
    · exact ng_refs (fun q hq => h q (List.mem_cons_of_mem _ hq)) i (by simpa only [refsL, V.refs] using hi)
/-- a list of another type stays when a list grows -/
theorem gw_other {s s' : St} {m m' e e' lo' n : Nat} {u w : V} {ys : List (List V)} (he : e ≠ e') (hu : u = .nils ∨ ∃ i g cs, u = .sl i g 0 n m true ∧ s[i]? = some (.row cs e g 0)) (h : GW s m' e' lo' w ys) (hf : ∀ j, (∀ i g, u = .sl i g 0 n m true → j ≠ i) → j < s.length → s'[j]? = s[j]?) : GW s' m' e' lo' w ys := by
  rcases h with h | ⟨hn, j, g, rfl, ho, hlo⟩
  · exact .inl h
  · refine .inr ⟨hn, j, g, rfl, ?_, hlo⟩
    rw [hf j ?_ (List.getElem?_eq_some_iff.1 ho).1]
    · exact ho
    · rintro i g' rfl rfl
      rcases hu with hu | ⟨i, g2, cs, hu, hs⟩
      · cases hu
      · cases hu
        rw [hs] at ho
        cases ho
        exact he rfl
theorem gw_shape {s : St} {m e lo : Nat} {u : V} {xs : List (List V)} (h : GW s m e lo u xs) : u = .nils ∨ ∃ i g cs, u = .sl i g 0 xs.length m true ∧ s[i]? = some (.row cs e g 0) := by
  rcases h with ⟨rfl, -⟩ | ⟨-, i, g, rfl, ho, -⟩
  · exact .inl rfl
  · exact .inr ⟨i, g, _, rfl, ho⟩
theorem ng_app {s : St} {lo o : Nat} {u w : V} {x : Ent} {L : List (V × Ent)} (h : NG s lo u L) (hlo : lo ≤ s.length) (hw : GW s 3 41 lo w (x.sites.map krow)) (hx : x.sites ≠ []) (ho : s[o]? = some (.row (nrow (w, x)) 32 0 0)) (hb : L.length ≤ 1000000) (hc : Cl s) :
    ∃ u' s', appV 48 (4, 32) u (.sl o 0 0 1 4 true) s = some (u', s') ∧ NG s' lo u' (L ++ [(w, x)]) ∧ s.length ≤ s'.length ∧ Cl s' ∧ ∀ j, j < lo → s'[j]? = s[j]? := by
  have hy : srcRows s 4 (.sl o 0 0 1 4 true) = some [nrow (w, x)] := by
    simp only [srcRows, ho]
    rfl
  obtain ⟨u', s', e1, g1, l1, f0, f1⟩ := gw_app (bytes := 48) h.1 hlo hy (by omega) (nrows_len L) (nrows_len [(w, x)]) (by simp; omega)
  have hu := gw_shape h.1
  have hall : ∀ p ∈ L ++ [(w, x)], p.2.sites ≠ [] ∧ GW s' 3 41 lo p.1 (p.2.sites.map krow) := by
    intro p hp
    rcases List.mem_append.1 hp with hp | hp
    · exact ⟨(h.2 p hp).1, gw_other (by omega) hu (h.2 p hp).2 f0⟩
    · obtain rfl := List.mem_singleton.1 hp
      exact ⟨hx, gw_other (by omega) hu hw f0⟩
  refine ⟨u', s', e1, ⟨by rw [List.map_append]; exact g1, hall⟩, l1, gw_app_cln h.1 hy e1 (ng_refs h.2) ?_ hc, f1⟩
  intro i hi
  simp only [List.flatten_cons, List.flatten_nil, List.append_nil, nrow, refsL, V.refs, List.nil_append] at hi
  exact gw_refs hw i hi
theorem ng_keep {s s' : St} {lo : Nat} {u : V} {L : List (V × Ent)} (h : NG s lo u L) (hk : ∀ j, lo ≤ j → j < s.length → s'[j]? = s[j]?) : NG s' lo u L := by
  have hg : ∀ {m e : Nat} {w : V} {ys : List (List V)}, GW s m e lo w ys → GW s' m e lo w ys := by
    intro m e w ys hw
    rcases hw with hw | ⟨hn, j, g, rfl, ho, hlo⟩
    · exact .inl hw
    · exact .inr ⟨hn, j, g, rfl, (hk j hlo (List.getElem?_eq_some_iff.1 ho).1).trans ho, hlo⟩
  exact ⟨hg h.1, fun p hp => ⟨(h.2 p hp).1, hg (h.2 p hp).2⟩⟩
theorem ng_nil {s : St} {lo : Nat} : NG s lo .nils [] := ⟨gw_nil, fun p hp => by cases hp⟩
/-! copies of entries, with lists of their own -/
theorem clone_own (z : Bool) (t : Nat) (l : List Key) (hn : l ≠ []) (hb : l.length ≤ 1000000) : ∃ u σ0, FnO TT PT 86 [SL z t (l.map krow)] u σ0 ∧ (GW σ0 3 41 0 u (l.map krow) ∧ Cl σ0) := by
  have hn2 : l.map krow ≠ [] := by simpa using hn
  have ha := app_e1 (σ := []) (m := 3) (e := 41) (bytes := 40) (y := .lst t (l.map krow)) (ys := l.map krow) rfl hn2 (by omega) (krows_len l) (by simp; omega)
  rw [sl_ne2 hn2]
  refine fno_ex T86 rfl ?_ (fun v s h => ⟨h.2, gw_okres h.1, gw_refs h.1⟩)
  simp only [go_sem, Nat.reduceEqDiff, reduceIte, Nat.reduceAdd, Nat.reduceMul, Nat.reduceLeDiff, Int.reduceLT, Int.reduceLE, Int.reduceToNat, Int.reduceAdd, Int.reduceNeg, Int.reduceEq, ha]
  refine ⟨_, rfl, .inr ⟨hn2, 0, 0, rfl, rfl, Nat.le_refl _⟩, cl_push cl_nil ?_⟩
  intro i hi
  rw [show Ob.refs (.row (l.map krow).flatten 41 0 0) = refsL (l.map krow).flatten from rfl, refsL_row (rows_all (krows_row l))] at hi
  cases hi
end Go.Proofs.YticpkkjnajmpoaaGreatDoor.KM
