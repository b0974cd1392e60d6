/- Walks: the law BaselineSpoilt. -/
import Derived.Test.YticpkkjnajmpoaaGreatDoorZc
import Derived.Test.YticpkkjnajmpoaaGreatDoorPp
set_option linter.all false
namespace Go.Proofs.YticpkkjnajmpoaaGreatDoor.KM
open Go
theorem get_del : ∀ (e : Env) (ks : List Nat) (n : Nat), (Env.del e ks).get n = if ks.elem n = true then .und else e.get n
  | [], ks, n => by simp [Env.del, Env.get]
  | (m, v) :: r, ks, n => by
    have ih := get_del r ks n
    simp only [Env.del]
    by_cases hm : ks.elem m = true
    · rw [if_pos hm, ih]
      by_cases hn : ks.elem n = true
      · rw [if_pos hn, if_pos hn]
      · rw [if_neg hn, if_neg hn]
        simp only [Env.get]
        rw [if_neg (by rintro rfl; exact hn hm)]
    · rw [if_neg hm]
      simp only [Env.get, ih]
      by_cases hmn : m = n
      · subst hmn
        rw [if_pos rfl, if_neg hm, if_pos rfl]
      · rw [if_neg hmn, if_neg hmn]
theorem on_cs {σ : St} {i g m e z n : Nat} {w : Bool} {cs : List V} {xs' : List (List V)} (ho : σ[i]? = some (.row cs e g z)) (hm : 0 < m) (hl : cs.length = n * m) (hc : OCs σ cs xs'.flatten) (hl' : ∀ r ∈ xs', r.length = m) (hn : xs'.length = n) :
    ON σ (.sl i g 0 n m w) (.lst 0 xs') := by
  intro js hj d
  have hi : js.elem i = true := by
    have := (hj i (by simp [V.refs])).1
    simpa using this
  have hin : ∀ j ∈ refsL cs, j ∈ js := (hj i (by simp [V.refs])).2 _ ho
  unfold settle
  rw [if_neg (by simp [V.rowB])]
  simp only [hi, if_true, ho]
  rw [if_pos ⟨trivial, hm, by omega⟩, List.drop_zero, List.take_of_length_le (by omega), ocs_map hc hin]
  simp only [Option.map_some, ← hn, chopL_flat hl']
theorem oc_cut {σ : St} {i g m e z k : Nat} {w : Bool} {xs : List (List V)} (ho : σ[i]? = some (.row xs.flatten e g z)) (hm : 0 < m) (hl : ∀ r ∈ xs, r.length = m) (hr : ∀ r ∈ xs, r.all V.rowB = true) (hk : k ≤ xs.length) : OC σ (.sl i g 0 k m w) (.lst 0 (xs.take k)) := by
  intro js hj d
  have hi : js.elem i = true := by
    have := hj i (by simp [V.refs])
    simpa using this
  have hf := flatL_len hl
  have hle : k * m ≤ xs.length * m := Nat.mul_le_mul_right m hk
  have h1 : xs.flatten = (xs.take k).flatten ++ (xs.drop k).flatten := by rw [← List.flatten_append, List.take_append_drop]
  have h2 : (xs.take k).flatten.length = k * m := by
    rw [flatL_len fun r hr => hl r (List.mem_of_mem_take hr), List.length_take, Nat.min_eq_left hk]
  have h3 : xs.flatten.take (k * m) = (xs.take k).flatten := by rw [h1, ← h2, List.take_left]
  have h4 := chopL_flat (m := m) (xs := xs.take k) fun r hr => hl r (List.mem_of_mem_take hr)
  rw [List.length_take, Nat.min_eq_left hk] at h4
  unfold settle
  rw [if_neg (by simp [V.rowB])]
  simp only [hi, if_true, ho]
  rw [if_pos ⟨trivial, hm, by omega⟩, List.drop_zero, h3, mapM_id fun c hc => ?_]
  · simp only [Option.map_some, h4]
  · obtain ⟨r, hrx, hcr⟩ := List.mem_flatten.1 hc
    exact settle_row (List.all_eq_true.1 (hr r (List.mem_of_mem_take hrx)) c hcr)
theorem ocs_put {σ : St} {v v' : V} (hv : OC σ v v') : ∀ {cs cs' : List V} {k : Nat}, OCs σ cs cs' → k < cs.length → OCs σ (cs.take k ++ v :: cs.drop (k + 1)) (cs'.take k ++ v' :: cs'.drop (k + 1))
  | _, _, _, .nil, h => by simp at h
  | _, _, 0, .cons _ hs, _ => .cons hv hs
  | _, _, k + 1, .cons h hs, hk => .cons h (ocs_put hv hs (by simpa using hk))
/-- one cell of one row is written -/
theorem row_upd {f : Nat} (hf : f < 4) {v : V} {x x' : Ent} (hx' : x'.row = x.row.take f ++ v :: x.row.drop (f + 1)) : ∀ {l : List Ent} {i : Nat}, l[i]? = some x →
    (l.map Ent.row).flatten.take (i * 4 + f) ++ v :: (l.map Ent.row).flatten.drop (i * 4 + f + 1) = ((l.set i x').map Ent.row).flatten
  | y :: l, 0, h => by
    cases h
    have h4 : x.row.length = 4 := rfl
    simp only [List.map_cons, List.flatten_cons, List.set_cons_zero, hx', Nat.zero_mul, Nat.zero_add]
    rw [List.take_append_of_le_length (by omega), List.drop_append_of_le_length (by omega)]
    simp
  | y :: l, i + 1, h => by
    have ih := row_upd hf hx' (l := l) (i := i) (by simpa using h)
    have h4 : y.row.length = 4 := rfl
    simp only [List.map_cons, List.flatten_cons, List.set_cons_succ]
    rw [← ih, List.take_append, List.drop_append, h4, show (i + 1) * 4 + f - 4 = i * 4 + f by omega, show (i + 1) * 4 + f + 1 - 4 = i * 4 + f + 1 by omega, List.take_of_length_le (show y.row.length ≤ (i + 1) * 4 + f by omega), List.drop_eq_nil_of_le (show y.row.length ≤ (i + 1) * 4 + f + 1 by omega), List.nil_append, List.append_assoc]
/-- what the changed baseline is read as -/
def EndS (σ : St) (q : Nat) : Prop := ∃ (n : Int) (u : V) (z : Bool) (t : Nat) (l : List Ent), σ[q]? = some (.row [.int .i64 n, u] 25 0 0) ∧ ON σ u (SL z t (l.map Ent.row)) ∧ okE l
theorem wgx_ow {deps : List (List Nat)} {n m : Nat} {ls : Ls} {K : Env → St → Fs → Ls → Prop} {i : AI} {e : Env} {f : Nat} {args vs : List V} {v : V} {σ : St} (hx : OWs σ args vs) (hf : Fn TT PT f vs v) (hfl : v.flatV = true) (h : K (e.putO i.dst v) σ [] ((m, fun s => over s args = some vs) :: ls)) : wgx TT PT deps n m i (.call f args) e σ [] ls K :=
  .inr (.inl ⟨v, vs, over_ow hx, .inr hf, hfl, trivial, h⟩)
def tailS : AC := match af7.body with
  | .seq _ (.seq _ (.seq _ (.seq _ c))) => c
  | c => c
theorem spoilt_end {e : Env} {σ : St} {q : Nat} (hE : EndS σ q) (he : e.get 13 = .ptr q 0 0) : W TT PT [.c tailS] e σ (FQ [AR.tmp 12] (.bool true)) := by
  obtain ⟨n, u, z, t, l, hq, ho, hl⟩ := hE
  have how : OW σ (.agg [.int .i64 n, u]) (.agg [.int .i64 n, SL z t (l.map Ent.row)]) := ow_agg (.cons (on_oc (oc_row rfl)) (.cons ho .nil))
  have hv := valid_fn z t n l hl
  have hr := rvalid_fn z t n l hl
  delta tailS af7
  dsimp only
  simp only [go_sem, Nat.reduceEqDiff, reduceIte, Nat.reduceAdd, Nat.reduceMul, Nat.reduceLeDiff, Int.reduceLT, Int.reduceLE, Int.reduceToNat, Int.reduceAdd, Int.reduceNeg, Int.reduceEq]
  refine w_drw (by kernel_rfl) ?_
  simp only [go_sem, Nat.reduceEqDiff, reduceIte, Nat.reduceAdd, Nat.reduceMul, Nat.reduceLeDiff, Int.reduceLT, Int.reduceLE, Int.reduceToNat, Int.reduceAdd, Int.reduceNeg, Int.reduceEq, he, hq]
  refine wgx_ow (.cons how .nil) hv (by rfl) ?_
  simp only [go_sem, Nat.reduceEqDiff, reduceIte, Nat.reduceAdd, Nat.reduceMul, Nat.reduceLeDiff, Int.reduceLT, Int.reduceLE, Int.reduceToNat, Int.reduceAdd, Int.reduceNeg, Int.reduceEq, he, hq]
  refine wgx_ow (.cons how .nil) hr (by rfl) ?_
  simp only [go_sem, Nat.reduceEqDiff, reduceIte, Nat.reduceAdd, Nat.reduceMul, Nat.reduceLeDiff, Int.reduceLT, Int.reduceLE, Int.reduceToNat, Int.reduceAdd, Int.reduceNeg, Int.reduceEq, he, hq, beq_self_eq_true]
  refine wgx_fn awake_fn (by simp only [go_sem]) ?_
  simp only [go_sem, Nat.reduceEqDiff, reduceIte, Nat.reduceAdd, Nat.reduceMul, Nat.reduceLeDiff, Int.reduceLT, Int.reduceLE, Int.reduceToNat, Int.reduceAdd, Int.reduceNeg, Int.reduceEq, he, hq, get_del]
  exact fr_set rfl
/-- the sites' object of one entry is written -/
theorem nk_ocs {s s' : St} {ib gb lo : Nat} {cs : List V} {S' : List Key} (hs : ∀ j, j ≠ ib → s'[j]? = s[j]?) (hb : s[ib]? = some (.row cs 41 gb 0)) (hb' : s'[ib]? = some (.row (S'.map krow).flatten 41 gb 0)) (hl : cs.length = S'.length * 3) (hne : S' ≠ []) (hS : S'.length ≤ 9223372036854775807) :
    ∀ L : List (V × Ent), (∀ p ∈ L, p.2.sites ≠ [] ∧ p.2.sites.length ≤ 9223372036854775807 ∧ GW s 3 41 lo p.1 (p.2.sites.map krow)) → ∃ l' : List Ent, l'.length = L.length ∧ OCs s' (L.map nrow).flatten (l'.map Ent.row).flatten ∧ okE l'
  | [], _ => ⟨[], rfl, .nil, fun x hx => by cases hx⟩
  | p :: L, h => by
    obtain ⟨l', h1, h2, h3⟩ := nk_ocs hs hb hb' hl hne hS L fun q hq => h q (List.mem_cons_of_mem _ hq)
    obtain ⟨p1, p2, p3⟩ := h p List.mem_cons_self
    have key : ∃ S2 : List Key, S2.length ≤ 9223372036854775807 ∧ OC s' p.1 (SL true 0 (S2.map krow)) := by
      rcases p3 with ⟨-, p3⟩ | ⟨hn, i, g, e1, ho, hlo⟩
      · simp at p3
        exact absurd p3 p1
      · by_cases hi : i = ib
        · subst hi
          rw [hb] at ho
          simp only [Option.some.injEq, Ob.row.injEq] at ho
          obtain ⟨hc, -, hg, -⟩ := ho
          subst hg
          have hf := flatL_len (krows_len p.2.sites)
          have hlen : (p.2.sites.map krow).length = (S'.map krow).length := by
            rw [← hc, hl] at hf
            rw [List.length_map] at hf ⊢
            rw [List.length_map]
            omega
          refine ⟨S', hS, ?_⟩
          rw [e1, hlen, sl_ne (by simpa using hne)]
          exact oc_sl hb' (by omega) (krows_len _) (krows_row _)
        · refine ⟨p.2.sites, p2, ?_⟩
          exact gw_oc (m := 3) (e := 41) (lo := lo) (.inr ⟨hn, i, g, e1, (hs i hi).trans ho, hlo⟩) (by omega) (krows_len _) (krows_row _)
    obtain ⟨S2, k1, k2⟩ := key
    refine ⟨⟨p.2.kind, S2, p.2.seen, p.2.missed, true, 0⟩ :: l', by simp [h1], ?_, fun x hx => ?_⟩
    · exact .cons (oc_row rfl) (.cons k2 (.cons (oc_row rfl) (.cons (oc_row rfl) h2)))
    · rcases List.mem_cons.1 hx with rfl | hx
      · exact k1
      · exact h3 x hx
theorem gw_set_ty {s : St} {i : Nat} {X : Ob} {cs : List V} {e' g z m e lo : Nat} {u : V} {xs : List (List V)} (h : GW s m e lo u xs) (hs : s[i]? = some (.row cs e' g z)) (he : e' ≠ e) : GW (s.set i X) m e lo u xs := by
  rcases h with h | ⟨hn, j, g', h, ho, hlo⟩
  · exact .inl h
  · refine .inr ⟨hn, j, g', h, ?_, hlo⟩
    rw [List.getElem?_set_ne, ho]
    rintro rfl
    rw [hs] at ho
    cases ho
    exact he rfl
theorem nflat_1 : ∀ {L : List (V × Ent)} {i : Nat} {p : V × Ent}, L[i]? = some p → (L.map nrow).flatten[i * 4 + 1]? = some p.1
  | p :: L, 0, _, h => by cases h; rfl
  | p :: L, i + 1, q, h => by
    have := nflat_1 (L := L) (i := i) (p := q) (by simpa using h)
    simp only [List.map_cons, List.flatten_cons, nrow, List.cons_append, List.nil_append]
    rw [show (i + 1) * 4 + 1 = i * 4 + 1 + 4 by omega]
    simpa using this
theorem lo2_at {cs : List V} {e g z off : Nat} {c : V} (h : cs[off]? = some c) : lo2 (some (.row cs e g z)) g 1 true off = some c := by
  obtain ⟨hl, rfl⟩ := List.getElem?_eq_some_iff.1 h
  rw [lo2_r, if_pos ⟨rfl, by omega⟩, List.drop_eq_getElem_cons hl]
  rfl
/-- one cell of one entry is written -/
theorem end_cell {σ : St} {q iu g lo idx f : Nat} {n : Int} {L : List (V × Ent)} {B : List Ent} {x x' : Ent} {v v' : V} (hq : σ[q]? = some (.row [.int .i64 n, .sl iu g 0 L.length 4 true] 25 0 0)) (ho : σ[iu]? = some (.row (L.map nrow).flatten 32 g 0))
    (hs : ∀ p ∈ L, p.2.sites ≠ [] ∧ GW σ 3 41 lo p.1 (p.2.sites.map krow)) (hL : ownL L = B.map Ent.row) (hi : B[idx]? = some x) (hf : f < 4) (hv : ∀ X : Ob, OC (σ.set iu X) v v') (hx' : x'.row = x.row.take f ++ v' :: x.row.drop (f + 1)) (hB : okE B) (hx2 : x'.sites.length ≤ 9223372036854775807) :
    EndS (σ.set iu (.row ((L.map nrow).flatten.take (idx * 4 + f) ++ v :: (L.map nrow).flatten.drop (idx * 4 + f + 1)) 32 g 0)) q := by
  have hil := (List.getElem?_eq_some_iff.1 ho).1
  have hne : iu ≠ q := by
    rintro rfl
    have h := hq.symm.trans ho
    simp only [Option.some.injEq, Ob.row.injEq] at h
    exact absurd h.2.1 (by decide)
  have hLB : L.length = B.length := by
    have := congrArg List.length hL
    simpa [ownL] using this
  have hidx : idx < L.length := by rw [hLB]; exact (List.getElem?_eq_some_iff.1 hi).1
  have hcl := flatL_len (nrows_len L)
  rw [List.length_map] at hcl
  have h1 := ng_ocs (s := σ.set iu (.row ((L.map nrow).flatten.take (idx * 4 + f) ++ v :: (L.map nrow).flatten.drop (idx * 4 + f + 1)) 32 g 0)) (lo := lo) (L := L) fun p hp => ⟨(hs p hp).1, gw_set_ty (hs p hp).2 ho (by omega)⟩
  rw [hL] at h1
  have h2 := ocs_put (hv _) h1 (show idx * 4 + f < (L.map nrow).flatten.length by omega)
  rw [row_upd hf hx' hi] at h2
  refine ⟨n, _, false, 0, B.set idx x', by rw [List.getElem?_set_ne hne]; exact hq, ?_, fun y hy => ?_⟩
  · have hSL : SL false 0 ((B.set idx x').map Ent.row) = .lst 0 ((B.set idx x').map Ent.row) := by simp [SL]
    rw [hSL]
    exact on_cs (by rw [List.getElem?_set_self hil]) (by omega) (by rw [List.length_append, List.length_take, List.length_cons, List.length_drop]; omega) h2 (erows_len _) (by simp [hLB])
  · rcases List.mem_or_eq_of_mem_set hy with hy | rfl
    · exact hB y hy
    · exact hx2
/-- one site of one entry is written -/
theorem end_site {σ : St} {q iu g lo ib gb : Nat} {n : Int} {L : List (V × Ent)} {cs : List V} {S' : List Key} (hq : σ[q]? = some (.row [.int .i64 n, .sl iu g 0 L.length 4 true] 25 0 0)) (ho : σ[iu]? = some (.row (L.map nrow).flatten 32 g 0))
    (hs : ∀ p ∈ L, p.2.sites ≠ [] ∧ p.2.sites.length ≤ 9223372036854775807 ∧ GW σ 3 41 lo p.1 (p.2.sites.map krow)) (hb : σ[ib]? = some (.row cs 41 gb 0)) (hl : cs.length = S'.length * 3) (hne : S' ≠ []) (hS : S'.length ≤ 9223372036854775807) :
    EndS (σ.set ib (.row (S'.map krow).flatten 41 gb 0)) q := by
  have hil := (List.getElem?_eq_some_iff.1 hb).1
  have h1 : ib ≠ q := by
    rintro rfl
    rw [hq] at hb
    cases hb
  have h2 : ib ≠ iu := by
    rintro rfl
    rw [ho] at hb
    cases hb
  have hcl := flatL_len (nrows_len L)
  rw [List.length_map] at hcl
  obtain ⟨l', k1, k2, k3⟩ := nk_ocs (s' := σ.set ib (.row (S'.map krow).flatten 41 gb 0)) (fun j hj => List.getElem?_set_ne (Ne.symm hj)) hb (List.getElem?_set_self hil) hl hne hS L hs
  refine ⟨n, _, false, 0, l', by rw [List.getElem?_set_ne h1]; exact hq, ?_, k3⟩
  have hSL : SL false 0 (l'.map Ent.row) = .lst 0 (l'.map Ent.row) := by simp [SL]
  rw [hSL]
  exact on_cs (by rw [List.getElem?_set_ne h2]; exact ho) (by omega) (by omega) k2 (erows_len _) (by simp [k1])
end Go.Proofs.YticpkkjnajmpoaaGreatDoor.KM
