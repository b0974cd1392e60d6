/- append at its operation; comparisons; bytes to strings. -/
import Derived.Test.YticpkkjnajmpoaaGreatDoorKj
set_option linter.all false
namespace Go.Proofs.YticpkkjnajmpoaaGreatDoor.KM
open Go Go.RowKit
variable {P : Program} {G : List (Nat × List V)} {N : Nat} {γ : Gh} {σ σ1 : St} {w : World} {e : Env} {a : Act} {o : Oper} {v : V}

theorem run_append_roomF (t ty e : TypeId) (i : TypeInfo) (ht : P.underlying t = some (.slice e)) (hi : P.info? e = some i)
    (g sLen sCap : Nat) (cur : Array Value) (e' : TypeId) (fz : Nat × Nat) (hg : w.heap[g]? = some (.cells cur e' fz)) (hfz : fz.2 ≤ sLen * i.size ∨ cur.size ≤ fz.1)
    (b : Addr) (m c : Nat) (news : List Value) (hl : news.length = m * i.size) (hnews : ∀ j u, news[j]? = some u → w.cell? (b.add j) = some u) (h1 : ∀ u ∈ news, u.oneCell' = true)
    (hroom : sLen + m ≤ sCap) (hfit : sLen * i.size + news.length ≤ cur.size) :
    (Builtin.append_ #[t, t] ty #[.slice (some ⟨g, 0, none⟩) sLen sCap, .slice (some b) m c]).run P w =
      .ok (.slice (some ⟨g, 0, none⟩) (sLen + m) sCap) (w.setRow g (cur.toList.take (sLen * i.size) ++ news ++ cur.toList.drop (sLen * i.size + news.length)).toArray) := by
  have hf := run_firstCells_some (P := P) w i.size m b m c news hl hnews
  have hst := run_storeCells_free P g (sLen * i.size) e' fz news 0 cur w hg (by simpa using hfz) (by simpa using hfit) h1
  simp only [Nat.add_zero] at hst
  simp [Builtin.append_, run_underlying ht, sizeOf, typeInfo, hi, Builtin.lenOf, hroom, hf, Addr.add_lit, hst]

theorem appR_width {bytes : Nat} {m : Nat × Nat} {x : V} {ys : List (List V)} (h : appR bytes m σ x ys = some (v, σ1)) : ∀ i, i < ys.length → (ys.getD i []).length = m.1 := by
  unfold appR at h
  split at h
  · rename_i hall
    intro i hi
    have := List.all_eq_true.1 hall.1 (ys.getD i []) (by rw [List.getD_eq_getElem?_getD, List.getElem?_eq_getElem hi]; exact List.getElem_mem hi)
    exact eq_of_beq this
  · cases h

theorem sim_app {t el : TypeId} {fi : TypeInfo} {z : Value} {x y : Operand} {s1 s2 : S} (ho : o.op = .call { callee := .builtin .append, args := #[x, y], argTypes := #[t, t] }) (ht : P.underlying t = some (.slice el)) (hfi : P.info? el = some fi) (hz : fi.zero = some z) (hzs : z.cells.size = fi.size) (hsz : 0 < fi.size) (hby : 0 < fi.bytes)
    (hx : RepV γ w (src e s1) (a.eval x)) (hy : RepV γ w (src e s2) (a.eval y)) (hI : Inv G N γ σ w)
    (h : evalOp (.app fi.bytes (fi.size, el) s1 s2) e σ = some (v, σ1)) : OpOk P G N γ σ w ((execOp a.eval o).run P w) v σ1 := by
  simp only [evalOp, Option.bind_eq_some_iff] at h
  obtain ⟨ys, hys, h⟩ := h
  have hwid := appR_width h
  have hb63 : ∀ k, k * fi.bytes ≤ 140737488355328 → k ≤ maxLen := fun k hk => by
    have : k ≤ k * fi.bytes := Nat.le_mul_of_pos_right _ hby
    unfold maxLen; omega
  have lift : ∀ {u : Value} {w' : World}, (Builtin.append_ #[t, t] o.type #[a.eval x, a.eval y]).run P w = .ok u w' → (execOp a.eval o).run P w = .ok (.value u) w' := fun hr => by
    simp only [execOp, ho, resolve, invoke, builtin, Sem.run_bind, Sem.run_pure, Result.andThen_ok, List.map_toArray, List.map_cons, List.map_nil, hr]
  have hsrc : (ys = [] ∧ a.eval y = .slice none 0 0) ∨ ∃ ad c news, a.eval y = .slice (some ad) ys.length c ∧ CellsIn γ w ys.flatten news ∧ ∀ j u, news[j]? = some u → w.cell? (ad.add j) = some u := by
    unfold srcRows at hys
    split at hys
    · rename_i e2
      rw [e2] at hy
      cases hys
      exact .inl ⟨rfl, repC_nils (repV_cell rfl hy)⟩
    · rename_i t' ys' e2
      rw [e2] at hy
      cases hys
      obtain ⟨ad, c, hu, hR, _⟩ := repC_lst (repV_cell rfl hy)
      obtain ⟨news, h1, h2⟩ := cells_of_lst hsz hwid hR
      exact .inr ⟨ad, c, news, hu, h1, h2⟩
    · rename_i i g off len m' own e2
      rw [e2] at hy
      split at hys
      · rename_i cs ee g' z hcs
        split at hys
        · rename_i hc
          obtain ⟨rfl, rfl, hle⟩ := hc
          cases hys
          obtain ⟨blk, cap, o', hb, hu, ho', _, hcap, _⟩ := live_sl (o' := 0) hI (repV_cell rfl hy) (by simp [eqLive, hcs])
          obtain ⟨_, _, _, us, lo, hi, g1, _, g2, g3⟩ := hI.obj i _ _ hcs hb
          have g1 : w.heap[blk]? = some (.cells us ee (lo, hi)) := g1
          refine .inr ⟨⟨blk, o', none⟩, cap, (us.toList.drop off).take (len * fi.size), by rw [hu, chop_len], ⟨?_, fun j hj => ?_⟩, fun j u hj => ?_⟩
          · rw [chop_flat _ _ _ (by simp; omega)]; simp; omega
          · rw [chop_flat _ _ _ (by simp; omega)] at hj ⊢
            have hj' : j < len * fi.size ∧ off + j < cs.length := by simp at hj; omega
            have := g3 (off + j) hj'.2
            simpa [List.getD_eq_getElem?_getD, List.getElem?_take, List.getElem?_drop, hj'.1, Array.getD_eq_getD_getElem?] using this
          · have hjl : j < len * fi.size := by have := (List.getElem?_eq_some_iff.1 hj).1; simp at this; omega
            have hl0 : 0 < len := by
              rcases Nat.eq_zero_or_pos len with h | h
              · rw [h] at hjl; simp at hjl
              · exact h
            rw [ho' (by omega), add_none]
            rw [List.getElem?_take, if_pos hjl, List.getElem?_drop, Array.getElem?_toList] at hj
            simpa [World.cell?, g1] using hj
        · cases hys
      · cases hys
    · cases hys
  rcases hsrc with ⟨rfl, hu⟩ | ⟨ad, c, news, hu, hn1, hn2⟩
  · refine app_ok (news := []) (el := el) (bytes := fi.bytes) hI hx ⟨by simp, fun i hi => absurd hi (by simp)⟩ (fun _ b n c hnc hx' => lift ?_) (fun h => absurd h (by simp)) (fun _ _ _ _ _ _ _ _ h => absurd h (by simp)) (fun _ _ _ _ _ _ h => absurd h (by simp)) hb63 h
    · rw [hx', hu]
      cases b <;> simp [Builtin.append_, run_underlying ht, sizeOf, typeInfo, hfi, Builtin.lenOf, Builtin.firstCells, storeCells, hnc]
  · have hnl : news.length = ys.length * fi.size := by rw [← hn1.1, flat_len hwid]
    have hone := hn1.one
    refine app_ok (news := news) (el := el) (bytes := fi.bytes) hI hx hn1 (fun h0 b n c' hnc hx' => lift ?_) (fun hp hb hx' => ?_) (fun g n cap cur e' fz hg hfz hp hroom hcs hx' => lift ?_) (fun b n cap olds ho1 ho2 _ hc hb hm hx' => ?_) hb63 h
    · have hn0 : news = [] := List.eq_nil_of_length_eq_zero (by rw [hnl, h0]; simp)
      rw [hx', hu, h0]
      cases b <;> simp [Builtin.append_, run_underlying ht, sizeOf, typeInfo, hfi, Builtin.lenOf, Builtin.firstCells, loadCells, loadCellsFrom, storeCells, hnc]
    · have hr := run_append_nil (P := P) w t o.type el fi z ht hfi hz ad ys.length c news hnl hn2 hp (by have := hb63 _ hb; unfold maxLen at this; omega) (by omega)
      refine ⟨_, _, lift (by rw [hx', hu]; exact hr), grownCap_ge _ _ _ _, grownCap_le_maxLen _ _ _ _ (hb63 _ hb), ?_⟩
      have := grownCap_ge w ys.length 0 el
      simp only [Array.size_append, List.size_toArray, size_zeroCells, hzs, hnl, ← Nat.add_mul]
      congr 1
      omega
    · rw [hx', hu]
      refine run_append_roomF (P := P) t o.type el fi ht hfi g n cap cur e' fz hg hfz ad ys.length c news hnl hn2 hone hroom ?_
      rw [hnl, hcs, ← Nat.add_mul]
      exact Nat.mul_le_mul_right _ hroom
    · have hr := run_append_grow (P := P) w t o.type el fi z ht hfi hz b n cap olds ho1 ho2 ad ys.length c news hnl hn2 hc (by unfold maxLen at hm; omega) (growslice_fits hc hb)
      refine ⟨_, _, lift (by rw [hx', hu]; exact hr), grownCap_ge _ _ _ _, grownCap_le_maxLen _ _ _ _ hm, ?_⟩
      have := grownCap_ge w (n + ys.length) cap el
      simp only [Array.size_append, List.size_toArray, size_zeroCells, hzs, hnl, ho1, ← Nat.add_mul]
      congr 1
      omega

theorem run_append_room_strF (t u ty e : TypeId) (i : TypeInfo) (ht : P.underlying t = some (.slice e)) (hu : P.underlying u = some .string) (hi : P.info? e = some i) (hs1 : i.size = 1)
    (g sLen sCap : Nat) (cur : Array Value) (e' : TypeId) (fz : Nat × Nat) (hg : w.heap[g]? = some (.cells cur e' fz)) (hfz : fz.2 ≤ sLen ∨ cur.size ≤ fz.1) (s : ByteArray)
    (hroom : sLen + s.size ≤ sCap) (hfit : sLen + s.size ≤ cur.size) :
    (Builtin.append_ #[t, u] ty #[.slice (some ⟨g, 0, none⟩) sLen sCap, .string s]).run P w =
      .ok (.slice (some ⟨g, 0, none⟩) (sLen + s.size) sCap) (w.setRow g (cur.toList.take sLen ++ Lib.strCells s ++ cur.toList.drop (sLen + s.size)).toArray) := by
  have hf := Lib.run_firstCells_string (P := P) w 1 s
  have hst := run_storeCells_free P g sLen e' fz (Lib.strCells s) 0 cur w hg (by simpa using hfz) (by simpa [Lib.strCells_length] using hfit) (Lib.strCells_oneCell s)
  simp only [Nat.add_zero, Lib.strCells_length] at hst
  simp [Builtin.append_, run_underlying ht, run_underlying hu, sizeOf, typeInfo, hi, hs1, Builtin.lenOf, hroom, hf, Addr.add_lit, hst]

theorem byteRows_len (l : List UInt8) : (byteRows l).length = l.length := by simp [byteRows]
theorem byteRows_get (l : List UInt8) (i : Nat) (h : i < l.length) : (byteRows l).getD i [] = [V.int .u8 (l[i].toNat : Int)] := by
  simp [byteRows, List.getD_eq_getElem?_getD, h]
theorem byteRows_flat (l : List UInt8) : (byteRows l).flatten = l.map fun c => V.int .u8 (c.toNat : Int) := by
  induction l with
  | nil => rfl
  | cons c l ih => simp [byteRows] at ih ⊢; exact ih
theorem cells_bytes (l : List UInt8) : CellsIn γ w (byteRows l).flatten (Lib.strCells ⟨l.toArray⟩) := by
  rw [byteRows_flat]
  refine ⟨by simp [Lib.strCells], fun j hj => ?_⟩
  have hj' : j < l.length := by simpa using hj
  have e1 : (l.map fun c => V.int .u8 (c.toNat : Int)).getD j .und = .int .u8 (l[j].toNat : Int) := by simp [List.getD_eq_getElem?_getD, hj']
  have e2 : (Lib.strCells ⟨l.toArray⟩).getD j undef = .int .u8 (l[j].toNat : Int) := by simp [Lib.strCells, List.getD_eq_getElem?_getD, hj']
  rw [e1, e2]
  exact .row .int

theorem sim_apps {t u el : TypeId} {fi : TypeInfo} {z : Value} {x y : Operand} {s1 s2 : S} (ho : o.op = .call { callee := .builtin .append, args := #[x, y], argTypes := #[t, u] }) (ht : P.underlying t = some (.slice el)) (hu : P.underlying u = some .string) (hfi : P.info? el = some fi) (hz : fi.zero = some z) (hzs : z.cells.size = 1) (hsz : fi.size = 1) (hby : fi.bytes = 1)
    (hx : RepV γ w (src e s1) (a.eval x)) (hy : RepV γ w (src e s2) (a.eval y)) (hI : Inv G N γ σ w)
    (h : evalOp (.apps el s1 s2) e σ = some (v, σ1)) : OpOk P G N γ σ w ((execOp a.eval o).run P w) v σ1 := by
  simp only [evalOp] at h
  split at h
  · rename_i l e2
    rw [e2] at hy
    obtain ⟨hv, hl⟩ := repC_str (repV_cell rfl hy)
    have hb63 : ∀ k, k * 1 ≤ 140737488355328 → k ≤ maxLen := fun k hk => by unfold maxLen; omega
    have lift : ∀ {u' : Value} {w' : World}, (Builtin.append_ #[t, u] o.type #[a.eval x, a.eval y]).run P w = .ok u' w' → (execOp a.eval o).run P w = .ok (.value u') w' := fun hr => by
      simp only [execOp, ho, resolve, invoke, builtin, Sem.run_bind, Sem.run_pure, Result.andThen_ok, List.map_toArray, List.map_cons, List.map_nil, hr]
    have hms : (⟨l.toArray⟩ : ByteArray).size = l.length := mk_size l
    have hsc : (Lib.strCells ⟨l.toArray⟩).length = l.length := by rw [Lib.strCells_length, mk_size]
    refine app_ok (news := Lib.strCells ⟨l.toArray⟩) (el := el) (bytes := 1) (m := 1) hI hx (cells_bytes l) (fun h0 b n c' hnc hx' => lift ?_) (fun hp hb hx' => ?_) (fun g n cap cur e' fz hg hfz hp hroom hcs hx' => lift ?_) (fun b n cap olds ho1 ho2 _ hc hb hm hx' => ?_) hb63 h
    · rw [byteRows_len] at h0
      have hl0 : l = [] := List.eq_nil_of_length_eq_zero h0
      subst hl0
      rw [hx', hv]
      cases b <;> simp [Builtin.append_, run_underlying ht, run_underlying hu, sizeOf, typeInfo, hfi, Builtin.lenOf, Builtin.firstCells, storeCells, mk_size, hnc]
    · rw [byteRows_len] at hp hb ⊢
      have hr := run_append_nil_string (P := P) w t u o.type el fi z ht hu hfi hz ⟨l.toArray⟩ (by omega) (by rw [hms]; omega) (by rw [hby, hms]; omega)
      rw [hms] at hr
      have hdat : (Array.map (fun b : UInt8 => Value.int IntKind.u8 (b.toNat : Int)) (⟨l.toArray⟩ : ByteArray).data) = (Lib.strCells ⟨l.toArray⟩).toArray := by simp [Lib.strCells]
      rw [hdat] at hr
      refine ⟨_, _, lift (by rw [hx', hv]; exact hr), grownCap_ge _ _ _ _, grownCap_le_maxLen _ _ _ _ (hb63 _ hb), ?_⟩
      have := grownCap_ge w l.length 0 el
      simp only [Array.size_append, List.size_toArray, size_zeroCells, hzs, hsc]
      omega
    · rw [byteRows_len] at hp hroom ⊢
      have hr := run_append_room_strF (P := P) (w := w) t u o.type el fi ht hu hfi hsz g n cap cur e' fz hg (by simpa using hfz) ⟨l.toArray⟩ (by rw [hms]; omega) (by rw [hms]; omega)
      rw [hx', hv, hsc, Nat.mul_one, hr, hms]
    · rw [byteRows_len] at hc hb hm ⊢
      have hr := Lib.run_append_grow_string (P := P) w t u o.type el fi z ht hu hfi hz b n cap olds (by rw [hsz]; exact ho1) ho2 ⟨l.toArray⟩ (by rw [hms]; exact hc) (by rw [hms]; unfold maxLen at hm; omega) (by rw [hms, hby]; exact growslice_fits hc hb)
      rw [hms] at hr
      refine ⟨_, _, lift (by rw [hx', hv]; exact hr), grownCap_ge _ _ _ _, grownCap_le_maxLen _ _ _ _ hm, ?_⟩
      have := grownCap_ge w (n + l.length) cap el
      simp only [Array.size_append, List.size_toArray, size_zeroCells, hzs, hsc, ho1]
      omega
  · cases h

/-- a part of a struct or an array -/
theorem part_run {t : TypeId} {d : TypeDesc} {fi : TypeInfo} {n off : Nat} {one : Bool} {cs : List V} {us : List Value} {v : V} (ht : P.underlying t = some d) (hd : aggB d = !one) (hfi : P.info? t = some fi) (hn : fi.size = n)
    (hl : cs.length = us.length) (hj : ∀ j, j < cs.length → RepC γ w (cs.getD j .und) (us.getD j undef)) (hle : off + n ≤ cs.length) (h : mkOne one ((cs.drop off).take n) = some v) :
    ∃ u, (part t us.toArray off).run P w = .ok u w ∧ RepV γ w v u := by
  have hlen : ((cs.drop off).take n).length = n := by simp; omega
  have hr : ∀ j, j < n → RepC γ w (((cs.drop off).take n).getD j .und) (us.getD (off + j) undef) := fun j hjn => by
    have e1 : ((cs.drop off).take n).getD j .und = cs.getD (off + j) .und := by
      simp only [List.getD_eq_getElem?_getD, List.getElem?_take, List.getElem?_drop]
      rw [if_pos hjn]
    rw [e1]
    exact hj _ (by omega)
  obtain ⟨m1, m2⟩ := mkOne_rep (f := fun j => us.getD (off + j) undef) h hlen hr
  have hag := run_isAgg (P := P) (w := w) ht
  rw [hd] at hag
  cases one with
  | true =>
    obtain ⟨h1, h2⟩ := m1 rfl
    have hlt : off < us.length := by omega
    refine ⟨us.getD off undef, ?_, repV_of h2⟩
    simp [part, hag, List.getElem?_eq_getElem hlt, List.getD_eq_getElem?_getD]
  | false =>
    refine ⟨_, ?_, .one (m2 rfl)⟩
    have e2 : us.toArray.extract off (off + n) = ((List.range n).map fun j => us.getD (off + j) undef).toArray := by
      apply Array.ext
      · simp; omega
      · intro i h1 h2
        simp at h1 h2
        simp [List.getD_eq_getElem?_getD, show off + i < us.length by omega]
    generalize us.toArray = arr at e2 ⊢
    simp [part, hag, sizeOf, typeInfo, hfi, hn, e2]

theorem sim_fld {t : TypeId} {fs : Array Field} {f : Field} {d : TypeDesc} {fi : TypeInfo} {i off n : Nat} {one : Bool} {x : Operand} {s : S} (ho : o.op = .field t x i) (hs : P.underlying t = some (.struct fs)) (hf : fs[i]? = some f) (hoff : f.offset = off)
    (ht : P.underlying f.type = some d) (hd : aggB d = !one) (hfi : P.info? f.type = some fi) (hn : fi.size = n)
    (hx : RepV γ w (src e s) (a.eval x)) (hI : Inv G N γ σ w) (h : evalOp (.fld off n one s) e σ = some (v, σ1)) : OpOk P G N γ σ w ((execOp a.eval o).run P w) v σ1 := by
  simp only [evalOp] at h
  split at h
  · rename_i cs e1
    rw [e1] at hx
    obtain ⟨us, hu, hl, hj⟩ := repV_agg hx
    split at h
    · rename_i hle
      simp only [Option.map_eq_some_iff] at h
      obtain ⟨v', h, h2⟩ := h
      cases h2
      obtain ⟨u, hr, hv⟩ := part_run (P := P) ht hd hfi hn hl hj hle h
      refine ok_pure hI (u := u) ?_ hv
      simp [execOp, ho, hu, Instr.field, run_underlying hs, hf, asAgg, hoff, hr]
    · cases h
  · cases h

theorem sim_ida {t el : TypeId} {d : TypeDesc} {fi : TypeInfo} {len m : Nat} {one : Bool} {x y : Operand} {s1 s2 : S} (ho : o.op = .index t x y) (hs : P.underlying t = some (.array len el))
    (ht : P.underlying el = some d) (hd : aggB d = !one) (hfi : P.info? el = some fi) (hn : fi.size = m)
    (hx : RepV γ w (src e s1) (a.eval x)) (hy : RepV γ w (src e s2) (a.eval y)) (hI : Inv G N γ σ w) (h : evalOp (.ida len m one s1 s2) e σ = some (v, σ1)) : OpOk P G N γ σ w ((execOp a.eval o).run P w) v σ1 := by
  simp only [evalOp] at h
  split at h
  · rename_i k n e2
    rw [e2] at hy
    have hy' := repC_int (repV_cell rfl hy)
    split at h
    · rename_i hb
      split at h
      · rename_i cs e1
        rw [e1] at hx
        obtain ⟨us, hu, hl, hj⟩ := repV_agg hx
        split at h
        · rename_i hle
          simp only [Option.map_eq_some_iff] at h
          obtain ⟨v', h, h2⟩ := h
          cases h2
          obtain ⟨u, hr, hv⟩ := part_run (P := P) ht hd hfi hn hl hj hle h
          refine ok_pure hI (u := u) ?_ hv
          simp [execOp, ho, hu, hy', Instr.index, asIntOf, run_underlying hs, hb, sizeOf, typeInfo, hfi, hn, hr]
        · cases h
      · cases h
    · cases h
  · cases h
end Go.Proofs.YticpkkjnajmpoaaGreatDoor.KM
