/- THE PLAIN MACHINE, joined texts: Kr Kt Ks Ku Kv Kw Kx. -/
import Derived.Test.YtlehfgdhebapeaaDoorA2
import Derived.Test.YtlehfgdhebapeaaDoorA1
set_option linter.all false
/- THE PLAIN MACHINE IS RIGHT: the theorem. -/
namespace Go.Proofs.YtlehfgdhebapeaaDoor.KM
open Go Go.RowKit
variable {P : Program} {G : List (Nat × List V)} {T : Nat → Option AF} {pr : Nat → Option (List V → Option V)}

theorem ML_range {n : Nat} {ops : Array Oper} : ∀ (ais : List AI) (os : List Oper) (k : Nat), okOps P G n ops ais os = true → ops.toList.drop k = os → ML P G n ops ais (List.range' k os.length)
  | [], [], _, _, _ => trivial
  | i :: ais, o :: os, k, h, hd => by
    simp only [okOps, Bool.and_eq_true] at h
    have hk : ops[k]? = some o := by
      have : (ops.toList.drop k)[0]? = some o := by rw [hd]; rfl
      simpa using this
    refine ⟨⟨o, hk, h.1⟩, ML_range ais os (k + 1) h.2 ?_⟩
    rw [← List.drop_drop, hd]; rfl
  | [], _ :: _, _, h, _ => by simp [okOps] at h
  | _ :: _, [], _, h, _ => by simp [okOps] at h
theorem okOps_get {n : Nat} {ops : Array Oper} : ∀ {ais : List AI} {os : List Oper}, okOps P G n ops ais os = true → ais.length = os.length ∧ ∀ (i : Nat) (o : Oper), os[i]? = some o → ∃ ai, ais[i]? = some ai ∧ okAI P G n ops ai o = true
  | [], [], _ => ⟨rfl, fun i o h => by simp at h⟩
  | a :: ais, o :: os, h => by
    simp only [okOps, Bool.and_eq_true] at h
    obtain ⟨l, g⟩ := okOps_get h.2
    refine ⟨by simp [l], fun i o' ho => ?_⟩
    cases i with
    | zero => simp at ho; subst ho; exact ⟨a, rfl, h.1⟩
    | succ i => simpa using g i o' (by simpa using ho)
  | [], _ :: _, h => by simp [okOps] at h
  | _ :: _, [], h => by simp [okOps] at h
theorem ML_pick {n : Nat} {ops : Array Oper} {ais : List AI} (h : okOps P G n ops ais ops.toList = true) : ∀ (L : List Nat), (∀ i ∈ L, i < ops.size) → ML P G n ops (pickAI ais L) L
  | [], _ => trivial
  | j :: L, hL => by
    have hj := hL j (by simp)
    obtain ⟨ai, h1, h2⟩ := (okOps_get h).2 j ops[j] (by simp [hj])
    unfold pickAI
    rw [List.filterMap_cons, h1]
    exact ⟨⟨ops[j], Array.getElem?_eq_getElem hj, h2⟩, ML_pick h L (fun i hi => hL i (by simp [hi]))⟩
theorem lin_lt (deps : List (List Nat)) : ∀ (fuel t : Nat) (acc : List Nat), (∀ i ∈ acc, i < deps.length) → ∀ i ∈ linGo deps fuel t acc, i < deps.length
  | 0, _, acc, h => fun i hi => h i (by simpa [linGo] using hi)
  | fuel + 1, t, acc, h => by
    intro i hi
    unfold linGo at hi
    simp only at hi
    split at hi
    · rename_i j hj
      refine lin_lt deps fuel _ (j :: acc) (fun k hk => ?_) i hi
      rcases List.mem_cons.1 hk with rfl | hk
      · have := (List.mem_filter.1 (List.mem_of_getElem? hj)).1
        simpa using this
      · exact h k hk
    · exact h i (by simpa using hi)

theorem parEnv_get : ∀ (vs : List V) (k n : Nat), (parEnv k vs).get n = if k ≤ n then vs.getD (n - k) .und else .und
  | [], k, n => by simp [parEnv, Env.get]
  | v :: vs, k, n => by
    simp only [parEnv, Env.get]
    by_cases h : k = n
    · subst h; simp
    · rw [if_neg h, parEnv_get vs (k + 1) n]
      by_cases h2 : k + 1 ≤ n
      · rw [if_pos h2, if_pos (by omega)]
        rw [show n - k = (n - (k + 1)) + 1 by omega]
        simp
      · rw [if_neg h2]
        rw [if_neg (by omega)]

section
variable {n : Nat} {c : Code}
theorem okC_skip (h : okC P G n .skip c = true) : c = .skip := by cases c <;> simp [okC] at h; rfl
theorem okC_reg {kill : List Nat} {ais : List AI} (h : okC P G n (.reg kill ais) c = true) : ∃ id ops, c = .region id ops false ∧ okOps P G n ops ais ops.toList = true := by
  cases c with
  | region id ops d =>
    cases d with
    | false => exact ⟨id, ops, rfl, h⟩
    | true => cases h
  | _ => cases h
theorem okC_drw {kill : List Nat} {deps : List (List Nat)} {ais : List AI} (h : okC P G n (.drw kill deps ais) c = true) : ∃ id ops, c = .region id ops true ∧ okOps P G n ops ais ops.toList = true ∧ depsOk deps ops.toList = true ∧ P.follows .mixedOrders = true := by
  cases c with
  | region id ops d =>
    cases d with
    | false => cases h
    | true =>
      simp only [okC, Bool.and_eq_true] at h
      exact ⟨id, ops, rfl, h⟩
  | _ => cases h
theorem okC_seq {x y : AC} (h : okC P G n (.seq x y) c = true) : ∃ c1 c2, c = .seq c1 c2 ∧ okC P G n x c1 = true ∧ okC P G n y c2 = true := by
  cases c <;> simp [okC] at h
  exact ⟨_, _, rfl, h⟩
theorem okC_cond {s : S} {kill : List Nat} {x y : AC} (h : okC P G n (.cond s kill x y) c = true) : ∃ o c1 c2, c = .cond o c1 c2 ∧ okS G s o = true ∧ okC P G n x c1 = true ∧ okC P G n y c2 = true := by
  cases c <;> simp [okC] at h
  exact ⟨_, _, _, rfl, h⟩
theorem okC_blk {id : Nat} {x : AC} (h : okC P G n (.blk id x) c = true) : ∃ c1, c = .block id c1 ∧ okC P G n x c1 = true := by
  cases c <;> simp [okC] at h
  obtain ⟨rfl, h⟩ := h
  exact ⟨_, rfl, h⟩
theorem okC_loop {keep : List Nat} {x : AC} (h : okC P G n (.loop keep x) c = true) : ∃ c1, c = .loop c1 ∧ okC P G n x c1 = true := by
  cases c <;> simp [okC] at h
  exact ⟨_, rfl, h⟩
theorem okC_exit {id : Nat} (h : okC P G n (.exit id) c = true) : c = .exit id := by
  cases c <;> simp [okC] at h
  rw [h]
theorem okC_ret (h : okC P G n .ret c = true) : c = .ret := by cases c <;> simp [okC] at h; rfl
end

/-- a call's own objects are given up -/
theorem Ext.len {N : Nat} {γ γ' : Gh} {σ σ' : St} {w w' : World} (hI : Inv G N γ σ w) (h : Inv G N γ' σ' w') (hx : Ext γ w γ' w') : σ.length ≤ σ'.length := by
  rw [← hI.len, ← h.len]
  rcases Nat.eq_zero_or_pos γ.O.length with h0 | h0
  · omega
  · obtain ⟨b1, g1, h1, _⟩ := hx.obj (γ.O.length - 1) (γ.O[γ.O.length - 1]'(by omega)).1 (γ.O[γ.O.length - 1]'(by omega)).2 (List.getElem?_eq_getElem _)
    have := (List.getElem?_eq_some_iff.1 h1).1
    omega
theorem ext_leave {N : Nat} {γ γ' : Gh} {σ : St} {w w' : World} {X : List (Nat × Nat)} (hI : Inv G N γ σ w) (hx : Ext γ w γ' w') : Ext γ w ⟨γ'.κ, γ'.O.take σ.length ++ X⟩ w' :=
  ⟨hx.kap, hx.cell, fun i blk g hi => by
    obtain ⟨b1, g1, h1, h2, h3⟩ := hx.obj i blk g hi
    have hil : i < σ.length := by rw [← hI.len]; exact (List.getElem?_eq_some_iff.1 hi).1
    refine ⟨b1, g1, ?_, h2, h3⟩
    show (γ'.O.take σ.length ++ X)[i]? = _
    rw [List.getElem?_append_left (by have := (List.getElem?_eq_some_iff.1 h1).1; simp; omega), List.getElem?_take, if_pos hil]
    exact h1⟩
theorem within_mem {n : Nat} {js is : List Nat} (h : within n js is = true) : ∀ i ∈ is, i < n ∨ i ∈ js := fun i hi => by
  have := List.all_eq_true.1 h i hi
  simp only [Bool.or_eq_true, decide_eq_true_eq, List.elem_iff] at this
  exact this
theorem drop_none {N : Nat} {γ γ' : Gh} {σ σ' : St} {w w' : World} {v : V} {u : Value} (hI : Inv G N γ σ w) (h : Inv G N γ' σ' w') (hx : Ext γ w γ' w') (hv : within σ.length [] v.refs = true)
    (hb : ∀ i ob, i < σ.length → σ'[i]? = some ob → σ[i]? = some ob ∨ within σ.length [] ob.refs = true) (hr : RepV γ' w' v u) :
    ∃ γ2, RepV γ2 w' v u ∧ Inv G N γ2 (σ'.take σ.length) w' ∧ Ext γ w γ2 w' ∧ ∀ b, γ2.κ b = γ'.κ b := by
  obtain ⟨i1, i2⟩ := h.leave (n := σ.length) (js := []) (ρ := fun i => i) (Ext.len hI h hx) (fun i hi => by cases hi) List.nodup_nil (fun _ _ => rfl) (fun k hk => by simp at hk) (fun i ob hi ho j hj => by
    rcases hi with hi | hi
    · rcases hb i ob hi ho with h1 | h1
      · obtain ⟨p, _, hok⟩ := hI.of h1
        exact .inl (by rw [← hI.len]; exact hok.refs_lt j hj)
      · exact within_mem h1 j hj
    · cases hi)
  have e1 : (σ'.take σ.length ++ ([] : List Nat).filterMap (σ'[·]?)).map (Ob.ren fun i => i) = σ'.take σ.length := by
    simp only [List.filterMap_nil, List.append_nil]
    have : (Ob.ren fun i => i) = id := funext ob_ren_id
    rw [this, List.map_id]
  rw [e1] at i1
  have hr2 := hr.renum (O := γ'.O.take σ.length ++ ([] : List Nat).filterMap (γ'.O[·]?)) (ρ := fun i => i) (fun i hi p hp => i2 i (within_mem hv i hi) p hp)
  rw [ren_id] at hr2
  exact ⟨_, hr2, i1, ext_leave hI hx, fun _ => rfl⟩
theorem drop_some {N : Nat} {γ γ' : Gh} {σ σ' : St} {w w' : World} {v : V} {u : Value} {js : List Nat} (hI : Inv G N γ σ w) (h : Inv G N γ' σ' w') (hx : Ext γ w γ' w') (hl : leaveSome σ.length js v σ' = true) (hr : RepV γ' w' v u) :
    ∃ γ2, RepV γ2 w' (v.ren (ren σ.length js)) u ∧ Inv G N γ2 ((σ'.take σ.length ++ js.filterMap (σ'[·]?)).map (Ob.ren (ren σ.length js))) w' ∧ Ext γ w γ2 w' ∧ ∀ b, γ2.κ b = γ'.κ b := by
  unfold leaveSome at hl
  simp only [Bool.and_eq_true, decide_eq_true_eq, List.all_eq_true] at hl
  obtain ⟨_, hv, hobs, hnd, hjs⟩ := hl
  obtain ⟨i1, i2⟩ := h.leave (n := σ.length) (js := js) (ρ := ren σ.length js) (Ext.len hI h hx) hjs hnd (fun i hi => by simp [ren, hi]) (fun k hk => by
    have hk2 := (hjs js[k] (List.getElem_mem hk)).1
    unfold ren
    rw [if_neg (by omega)]
    congr 1
    have hf : js.findIdx (· == js[k]) < js.length := List.findIdx_lt_length_of_exists ⟨js[k], List.getElem_mem hk, by simp⟩
    have hg := List.findIdx_getElem (w := hf)
    have hg' : js[js.findIdx (· == js[k])] = js[k] := by simpa using hg
    exact nodup_get hnd (List.getElem?_eq_getElem hf) (by rw [hg']; exact List.getElem?_eq_getElem hk)) (fun i ob hi ho j hj => by
    refine within_mem (hobs ob ?_) j hj
    rw [List.mem_append]
    rcases hi with hi | hi
    · exact .inl (List.mem_of_getElem? (by rw [List.getElem?_take, if_pos hi]; exact ho))
    · exact .inr (List.mem_filterMap.2 ⟨i, hi, ho⟩))
  exact ⟨_, hr.renum (fun i hi p hp => i2 i (within_mem hv i hi) p hp), i1, ext_leave hI hx, fun _ => rfl⟩

theorem freeze_len : ∀ (js : List Nat) (σ : St), (σ.freeze js).length = σ.length
  | [], _ => rfl
  | i :: js, σ => by
    simp only [St.freeze]
    split
    · rw [freeze_len js, List.length_set]
    · exact freeze_len js σ
theorem ext_more {γ : Gh} {w w1 : World} {κ : Kap} {O : List (Nat × Nat)} (h : Ext γ w ⟨κ, O⟩ w1) (O' : List (Nat × Nat)) : Ext γ w ⟨κ, O ++ O'⟩ w1 where
  kap := h.kap
  cell := h.cell
  obj := fun i blk g hi => by
    obtain ⟨b', g', h1, h2, h3⟩ := h.obj i blk g hi
    exact ⟨b', g', by rw [List.getElem?_append_left (List.getElem?_eq_some_iff.1 h1).1]; exact h1, h2, h3⟩
/-- two states side by side -/
theorem inv_join {N M : Nat} {O : List (Nat × Nat)} {γ' : Gh} {σ σ0 : St} {w1 : World} (h1 : Inv G N ⟨γ'.κ, O⟩ σ w1) (h2 : Inv G M γ' σ0 w1) (hM : ∀ (i : Nat) (p : Nat × Nat), O[i]? = some p → p.1 < M) (hNM : N ≤ M) :
    Inv G N ⟨γ'.κ, O ++ γ'.O⟩ (σ ++ σ0.map (Ob.ren (· + σ.length))) w1 where
  base := h1.base
  len := by
    have e1 := h1.len
    have e2 := h2.len
    simp only [List.length_append, List.length_map] at e1 ⊢
    omega
  nd := by
    rw [List.map_append, List.nodup_append]
    refine ⟨h1.nd, h2.nd, fun a ha b hb => ?_⟩
    obtain ⟨p, hp, rfl⟩ := List.mem_map.1 ha
    obtain ⟨q, hq, rfl⟩ := List.mem_map.1 hb
    obtain ⟨i, hi, rfl⟩ := List.getElem_of_mem hp
    obtain ⟨j, hj, rfl⟩ := List.getElem_of_mem hq
    have := hM i _ (List.getElem?_eq_getElem hi)
    have := h2.low j _ (List.getElem?_eq_getElem hj)
    omega
  low := fun i p hp => by
    by_cases hi : i < O.length
    · exact h1.low i p (by rw [List.getElem?_append_left hi] at hp; exact hp)
    · rw [List.getElem?_append_right (by omega)] at hp
      exact Nat.le_trans hNM (h2.low _ p hp)
  obj := fun i ob p hs hp => by
    have hl : O.length = σ.length := h1.len
    by_cases hi : i < σ.length
    · rw [List.getElem?_append_left hi] at hs
      rw [List.getElem?_append_left (by omega)] at hp
      have := (h1.obj i ob p hs hp).renum (O := O ++ γ'.O) (ρ := fun i => i) (fun j _ q hq => by rw [List.getElem?_append_left (List.getElem?_eq_some_iff.1 hq).1]; exact hq)
      rw [ob_ren_id] at this
      exact this
    · rw [List.getElem?_append_right (by omega), List.getElem?_map] at hs
      rw [List.getElem?_append_right (by omega)] at hp
      obtain ⟨ob0, h0, rfl⟩ := Option.map_eq_some_iff.1 hs
      exact (h2.obj _ ob0 p h0 (by rw [← hl]; exact hp)).renum (O := O ++ γ'.O) (ρ := (· + σ.length)) (fun j _ q hq => by
        rw [List.getElem?_append_right (by omega)]
        show γ'.O[j + σ.length - O.length]? = some q
        rw [hl, Nat.add_sub_cancel]
        exact hq)
  dom := h1.dom
  glob := fun g r hg => by
    obtain ⟨b, o, k, row, hu, a1, a2, a3, a4⟩ := repC_imm (h1.glob g r hg)
    rw [hu]
    exact .imm row a1 a2 a3 a4
  gsz := h1.gsz
/-- what a function gives, out of what its body leaves -/
theorem fn_core (hT : ∀ f F, T f = some F → F.spec = none → okF P G f F = true) {f : Nat} {args : List V} {σ σ' σ2 : St} {e' : Env} {F : AF} {v v2 : V} (hF : T f = some F) (hsp : F.spec = none) (hl : args.length = F.pars) (hres : resV e' σ' F.res = some v) (hok0 : okRes v = true)
    (hk : ∀ (γ γ' : Gh) (w w' : World) (N : Nat) (u : Value), Inv G N γ σ w → Inv G N γ' σ' w' → Ext γ w γ' w' → RepV γ' w' v u → ∃ γ2, RepV γ2 w' v2 u ∧ Inv G N γ2 σ2 w' ∧ Ext γ w γ2 w' ∧ ∀ b, b < N → γ2.κ b = γ'.κ b)
    (ih : Shown P G (.code [.c F.body] (parEnv 0 args) σ e' σ')) : Shown P G (.fn f args σ v2 σ2) := by
  intro us w γ N hlen hrep hI
  obtain ⟨fn, c, hf, hb, hC, hR, hpars, hn⟩ := okF_some (hT f F hF hsp)
  intro cs
  let b : Frame := { (default : Frame) with fn := f, kind := .normal }
  have hsz : (us.toArray ++ Array.replicate (fn.ntmps - us.toArray.size) undef).size = fn.ntmps := by simp; omega
  have henter : Frame.enter P f us.toArray .normal = b.at { tmps := us.toArray ++ Array.replicate (fn.ntmps - us.toArray.size) undef, defers := [] } [.code c] := by
    simp [Frame.enter, Frame.at, hf, hb, b]
  have hE0 : RepE γ w (parEnv 0 args) (us.toArray ++ Array.replicate (fn.ntmps - us.toArray.size) undef) := fun m => by
    rw [parEnv_get, if_pos (Nat.zero_le _), Nat.sub_zero]
    by_cases hm : m < args.length
    · have := hrep m hm
      have e1 : (us.toArray ++ Array.replicate (fn.ntmps - us.toArray.size) undef).getD m undef = us.getD m undef := by
        rw [Array.getD_eq_getD_getElem?, Array.getElem?_append_left (by simp; omega), List.getElem?_toArray, List.getD_eq_getElem?_getD]
      rw [e1]
      exact this
    · rw [show args.getD m .und = .und by rw [List.getD_eq_getElem?_getD, List.getElem?_eq_none (by omega)]; rfl]
      exact .und
  obtain ⟨a', w', todo', hs, γ', g1, g2, g3, g4, g5, g6, g7⟩ := ih fn.ntmps [] [.code c] { tmps := us.toArray ++ Array.replicate (fn.ntmps - us.toArray.size) undef, defers := [] } w γ N (.c hC .nil) hsz rfl hE0 hI b cs
  rw [← henter] at hs
  -- the results
  have hresults : ∃ u, (results fn a'.tmps).run P w' = .ok u w' ∧ RepV γ' w' v u := by
    have hmap : ∀ us' : List Value, (fn.results.toList.mapM (resSem a'.tmps)).run P w' = .ok us' w' → (results fn a'.tmps).run P w' = .ok (if h : us'.toArray.size = 1 then us'.toArray[0] else .tuple us'.toArray) w' := fun us' h => by
      have e1 : results fn a'.tmps = (do let vs ← fn.results.mapM (resSem a'.tmps); pure (if h : vs.size = 1 then vs[0] else .tuple vs)) := by
        unfold results
        congr 2
      rw [e1, Array.mapM_eq_mapM_toList]
      simp [h]
    unfold resV at hres
    split at hres
    · rename_i r hr1
      rw [hr1] at hR
      have hm : [r].mapM (resOne e' σ') = some [v] := by simp [hres]
      obtain ⟨us', k1, k2, k3, k4⟩ := run_res (P := P) g1 g2 hR hm
      obtain ⟨u, rfl⟩ := List.length_eq_one_iff.1 (show us'.length = 1 by simpa using k2.symm)
      refine ⟨u, by simpa using hmap [u] k1, ?_⟩
      simpa using k4 0 (by simp)
    · rename_i rs hne
      simp only [Option.map_eq_some_iff] at hres
      obtain ⟨vs, hm, rfl⟩ := hres
      obtain ⟨us', k1, k2, k3, k4⟩ := run_res (P := P) g1 g2 hR hm
      have hl1 : us'.length ≠ 1 := fun h1 => by
        have : F.res.length = 1 := by
          have := (mapM_get hm).1
          omega
        obtain ⟨r, hr⟩ := List.length_eq_one_iff.1 this
        exact hne r hr
      refine ⟨.tuple us'.toArray, by simpa [hl1] using hmap us' k1, .tup k2 (fun j hj => ?_)⟩
      refine rep1_of ?_ (k4 j hj)
      have := List.all_eq_true.1 (show vs.all okRes1 = true from hok0) (vs.getD j .und) (by rw [List.getD_eq_getElem?_getD, List.getElem?_eq_getElem hj]; exact List.getElem_mem hj)
      exact this
  obtain ⟨u, hu, hv⟩ := hresults
  obtain ⟨γ2, i1, i2, i3, i4⟩ := hk γ γ' w w' N u hI g2 g3 hv
  exact ⟨.returned u, w', _, ⟨u, γ2, rfl, i1, i2, i3, g4, fun b hb => (i4 b hb).trans (g5 b hb)⟩, hs, rfl, rfl, g7, rfl, fn, hf, hu⟩
theorem sound (hT : ∀ f F, T f = some F → F.spec = none → okF P G f F = true) (hS : ∀ f F s, T f = some F → F.spec = some s → ThrOk P G f s) (hpr : ∀ f s, pr f = some s → PrimOk P G f s) {j : J} (h : Ev T pr j) : Shown P G j := by
  induction h with
  | opsNil =>
    intro n D ops L a w γ N Q hM ha hd hE hI hQ
    cases L with
    | nil => exact hQ a w ⟨γ, hE, hI, Ext.refl _ _, Below.refl _ _, fun _ _ => rfl, ha, hd⟩
    | cons => exact hM.elim
  | opsSkip hw _ ih =>
    intro n D ops L a w γ N Q hM ha hd hE hI hQ
    obtain ⟨j, js, o, rfl, ho, hok, hM'⟩ := hM.tail
    obtain ⟨k1, k2, k3, k4⟩ := okAI_split hok
    refine wp_off ho (wanted_eq k3 ha hE hw) ?_
    obtain ⟨p1, p2, p3⟩ := put_rep (u := undef) k2 ha hE .skp
    rw [k1] at p1 p2 p3
    exact ih n D ops js _ w γ N Q hM' p2 (p3.trans hd) (by rw [k1]; exact p1) hI hQ
  | @opsVal i l e e' σ σ1 σ' v hw hv _ ih =>
    intro n D ops L a w γ N Q hM ha hd hE hI hQ
    obtain ⟨j, js, o, rfl, ho, hok, hM'⟩ := hM.tail
    obtain ⟨k1, k2, k3, k4⟩ := okAI_split hok
    refine wp_on (n := n) ho (wanted_eq k3 ha hE hw) ?_
    have k4' : okOp P G i.op o.op = true := by
      split at k4
      · rename_i f xs e1
        rw [e1] at hv
        simp [evalOp] at hv
      · rename_i s xs e1
        rw [e1] at hv
        simp [evalOp] at hv
      · exact k4
    obtain ⟨u, w1, γ1, hr, hv1, hI1, hx1, hb1, hk1⟩ := opSim k4' hE hI hv
    obtain ⟨p1, p2, p3⟩ := put_rep (u := u) k2 ha (hE.ext hx1) hv1
    have next : wpOps P ops Q js (a.put o.dst u) w1 := by
      rw [← k1]
      exact ih n D ops js _ w1 γ1 N Q hM' p2 (p3.trans hd) p1 hI1 (fun a' w' hl => hQ a' w' (hl.after hx1 hb1 hk1))
    unfold Oper.wp
    rcases hr with hr | ⟨hr, rfl⟩
    · rw [hr]; exact next
    · rw [hr]; exact next
  | @opsPrim i f args l e e' σ σ' s vs v hw hc hp hx hs _ ih =>
    intro n D ops L a w γ N Q hM ha hd hE hI hQ
    obtain ⟨j, js, o, rfl, ho, hok, hM'⟩ := hM.tail
    obtain ⟨k1, k2, k3, k4⟩ := okAI_split hok
    refine wp_on (n := n) ho (wanted_eq k3 ha hE hw) ?_
    obtain ⟨⟨fn, c, hf, hb, hn⟩, hprim⟩ := hpr f s hp
    obtain ⟨us, hrun, hul, hur⟩ := call_enter (ops := ops) (n := n) k4 hc hE hI hf hb hn
    obtain ⟨κ1, z1, z2, z3, z4, _⟩ := hI.freeze (jsOf σ args)
    obtain ⟨ml, mg⟩ := mapM_get hx
    unfold Oper.wp
    rw [hrun]
    have hI0 := inv_pure z1
    refine (hprim κ1 w vs us v hI0.glob (fun g r hg => (hI0.gsz g r hg).2) z1.dom (by omega) (fun j hj => ?_) hs).mono ?_
    · have hja : j < args.length := by omega
      obtain ⟨y, hy, hfy⟩ := mg j _ (List.getElem?_eq_getElem hja)
      rw [show vs.getD j .und = y by rw [List.getD_eq_getElem?_getD, hy]; rfl]
      have := hur j hja
      rw [show args.getD j .und = args[j] by rw [List.getD_eq_getElem?_getD, List.getElem?_eq_getElem hja]; rfl] at this
      exact settle1_rep hI z2 z4 hfy this []
    rintro _ w1 ⟨u, κ', rfl, hu, hbl, hk, hdom⟩
    obtain ⟨γ1, q1, q2, q3, q4, q5⟩ := after_call (args := args) hI z1 z2 z3 hbl hk hdom hu
    obtain ⟨p1, p2, p3⟩ := put_rep (u := u) k2 ha (hE.ext q2) q3
    show wpOps P ops Q js (a.put o.dst u) w1
    rw [← k1]
    exact ih n D ops js _ w1 _ N Q hM' p2 (p3.trans hd) p1 q1 (fun a' w' hl => hQ a' w' (hl.after q2 q5 q4))
  | @opsPure i f args l e e' σ σ0 σ' F vs v v' hw hc hF hthr hsp hx _ hv _ ihf ih =>
    intro n D ops L a w γ N Q hM ha hd hE hI hQ
    obtain ⟨j, js, o, rfl, ho, hok, hM'⟩ := hM.tail
    obtain ⟨k1, k2, k3, k4⟩ := okAI_split hok
    refine wp_on (n := n) ho (wanted_eq k3 ha hE hw) ?_
    obtain ⟨fn, c, hf, hb, _, _, _, hn⟩ := okF_some (hT f F hF hsp)
    obtain ⟨us, hrun, hul, hur⟩ := call_enter (ops := ops) (n := n) k4 hc hE hI hf hb hn
    obtain ⟨κ1, z1, z2, z3, z4, _⟩ := hI.freeze (jsOf σ args)
    obtain ⟨ml, mg⟩ := mapM_get hx
    unfold Oper.wp
    rw [hrun]
    have hI0 := inv_pure z1
    refine (ihf us w ⟨κ1, []⟩ w.heap.size (by omega) (fun j hj => ?_) hI0).mono ?_
    · have hja : j < args.length := by omega
      obtain ⟨y, hy, hfy⟩ := mg j _ (List.getElem?_eq_getElem hja)
      rw [show vs.getD j .und = y by rw [List.getD_eq_getElem?_getD, hy]; rfl]
      have := hur j hja
      rw [show args.getD j .und = args[j] by rw [List.getD_eq_getElem?_getD, List.getElem?_eq_getElem hja]; rfl] at this
      exact .one (settle1_rep hI z2 z4 hfy this [])
    rintro _ w1 ⟨u, γ', rfl, hu, hI', hx', hbl, hk⟩
    obtain ⟨κ2, y1, y2, y3, y4, _⟩ := hI'.freeze (clo σ0 9 v.refs.eraseDups)
    have hu2 : RepV ⟨κ2, []⟩ w1 v' u := settleV_rep hI' y2 y4 hv hu []
    obtain ⟨γ1, q1, q2, q3, q4, q5⟩ := after_call (args := args) hI z1 z2 z3 hbl (fun b hlt => (y3 b hlt).trans (hk b hlt)) y1.dom hu2
    obtain ⟨p1, p2, p3⟩ := put_rep (u := u) k2 ha (hE.ext q2) q3
    show wpOps P ops Q js (a.put o.dst u) w1
    rw [← k1]
    exact ih n D ops js _ w1 _ N Q hM' p2 (p3.trans hd) p1 q1 (fun a' w' hl => hQ a' w' (hl.after q2 q5 q4))
  | @opsOwn i f args l e e' σ σ0 σ' F vs v hw hc hF hthr hsp hx _ _ ihf ih =>
    intro n D ops L a w γ N Q hM ha hd hE hI hQ
    obtain ⟨j, js, o, rfl, ho, hok, hM'⟩ := hM.tail
    obtain ⟨k1, k2, k3, k4⟩ := okAI_split hok
    refine wp_on (n := n) ho (wanted_eq k3 ha hE hw) ?_
    obtain ⟨fn, c, hf, hb, _, _, _, hn⟩ := okF_some (hT f F hF hsp)
    obtain ⟨us, hrun, hul, hur⟩ := call_enter (ops := ops) (n := n) k4 hc hE hI hf hb hn
    obtain ⟨κ1, z1, z2, z3, z4, _⟩ := hI.freeze (jsOf σ args)
    obtain ⟨ml, mg⟩ := mapM_get hx
    unfold Oper.wp
    rw [hrun]
    have hI0 := inv_pure z1
    refine (ihf us w ⟨κ1, []⟩ w.heap.size (by omega) (fun j hj => ?_) hI0).mono ?_
    · have hja : j < args.length := by omega
      obtain ⟨y, hy, hfy⟩ := mg j _ (List.getElem?_eq_getElem hja)
      rw [show vs.getD j .und = y by rw [List.getD_eq_getElem?_getD, hy]; rfl]
      have := hur j hja
      rw [show args.getD j .und = args[j] by rw [List.getD_eq_getElem?_getD, List.getElem?_eq_getElem hja]; rfl] at this
      exact .one (settle1_rep hI z2 z4 hfy this [])
    rintro _ w1 ⟨u, γ', rfl, hu, hI', hx', hbl, hk⟩
    obtain ⟨i1, i2⟩ := z1.more (w' := w1) (κ' := γ'.κ) (fun b hlt => hbl.block b hlt) hbl.size hk hI'.dom
    have hlen : (σ.freeze (jsOf σ args)).length = σ.length := freeze_len _ _
    have q1 := inv_join i1 hI' (fun i p hp => hI.oblt hp) hI.base
    rw [hlen] at q1
    have q2 : Ext γ w ⟨γ'.κ, γ.O ++ γ'.O⟩ w1 := ext_more (z2.trans i2) _
    have q3 : RepV ⟨γ'.κ, γ.O ++ γ'.O⟩ w1 (v.ren (· + σ.length)) u := hu.renum (fun i hi p hp => by
      rw [List.getElem?_append_right (by rw [hI.len]; omega), hI.len, Nat.add_sub_cancel]; exact hp)
    obtain ⟨p1, p2, p3⟩ := put_rep (u := u) k2 ha (hE.ext q2) q3
    show wpOps P ops Q js (a.put o.dst u) w1
    rw [← k1]
    exact ih n D ops js _ w1 _ N Q hM' p2 (p3.trans hd) p1 q1 (fun a' w' hl => hQ a' w' (hl.after q2 (hbl.mono hI.base) (fun b hlt => (hk b (Nat.lt_of_lt_of_le hlt hI.base)).trans (z3 b hlt))))
  | @opsAny i f args l e e' σ σ1 σ' F v hw hc hF hsp _ _ ihf ih =>
    intro n D ops L a w γ N Q hM ha hd hE hI hQ
    obtain ⟨j, js, o, rfl, ho, hok, hM'⟩ := hM.tail
    obtain ⟨k1, k2, k3, k4⟩ := okAI_split hok
    refine wp_on (n := n) ho (wanted_eq k3 ha hE hw) ?_
    obtain ⟨fn, c, hf, hb, _, _, _, hn⟩ := okF_some (hT f F hF hsp)
    obtain ⟨us, hrun, hul, hur⟩ := call_enter (ops := ops) (n := n) k4 hc hE hI hf hb hn
    unfold Oper.wp
    rw [hrun]
    refine (ihf us w γ N hul hur hI).mono ?_
    rintro _ w1 ⟨u, γ', rfl, hu, hI', hx', hbl, hk⟩
    obtain ⟨p1, p2, p3⟩ := put_rep (u := u) k2 ha (hE.ext hx') hu
    show wpOps P ops Q js (a.put o.dst u) w1
    rw [← k1]
    exact ih n D ops js _ w1 _ N Q hM' p2 (p3.trans hd) p1 hI' (fun a' w' hl => hQ a' w' (hl.after hx' hbl hk))
  | @opsThr i f args l e e' σ σ1 σ' F v hw hc hF hthr hsp _ _ ihf ih =>
    intro n D ops L a w γ N Q hM ha hd hE hI hQ
    obtain ⟨j, js, o, rfl, ho, hok, hM'⟩ := hM.tail
    obtain ⟨k1, k2, k3, k4⟩ := okAI_split hok
    refine wp_on (n := n) ho (wanted_eq k3 ha hE hw) ?_
    obtain ⟨fn, c, hf, hb, _, _, _, hn⟩ := okF_some (hT f F hF hsp)
    obtain ⟨us, hrun, hul, hur⟩ := call_enter (ops := ops) (n := n) k4 hc hE hI hf hb hn
    unfold Oper.wp
    rw [hrun]
    refine (ihf us w γ N hul hur hI).mono ?_
    rintro _ w1 ⟨u, γ', rfl, hu, hI', hx', hbl, hk⟩
    obtain ⟨p1, p2, p3⟩ := put_rep (u := u) k2 ha (hE.ext hx') hu
    show wpOps P ops Q js (a.put o.dst u) w1
    rw [← k1]
    exact ih n D ops js _ w1 _ N Q hM' p2 (p3.trans hd) p1 hI' (fun a' w' hl => hQ a' w' (hl.after hx' hbl hk))
  | @opsSpec i f args l e e' σ σ1 σ' F s v hw hc hF hthr hsp hs _ ih =>
    intro n D ops L a w γ N Q hM ha hd hE hI hQ
    obtain ⟨j, js, o, rfl, ho, hok, hM'⟩ := hM.tail
    obtain ⟨k1, k2, k3, k4⟩ := okAI_split hok
    refine wp_on (n := n) ho (wanted_eq k3 ha hE hw) ?_
    obtain ⟨⟨fn, c, hf, hb, hn⟩, hthrok⟩ := hS f F s hF hsp
    obtain ⟨us, hrun, hul, hur⟩ := call_enter (ops := ops) (n := n) k4 hc hE hI hf hb hn
    unfold Oper.wp
    rw [hrun]
    refine (hthrok _ σ v σ1 hs us w γ N hul hur hI).mono ?_
    rintro _ w1 ⟨u, γ', rfl, hu, hI', hx', hbl, hk⟩
    obtain ⟨p1, p2, p3⟩ := put_rep (u := u) k2 ha (hE.ext hx') hu
    show wpOps P ops Q js (a.put o.dst u) w1
    rw [← k1]
    exact ih n D ops js _ w1 _ N Q hM' p2 (p3.trans hd) p1 hI' (fun a' w' hl => hQ a' w' (hl.after hx' hbl hk))
  | fn hF hsp hl _ hres hok1 hok2 hok3 ih =>
    refine fn_core hT hF hsp hl hres hok1 (fun γ γ' w w' N u hI h2 hx hv => ?_) ih
    obtain ⟨γ2, i1, i2, i3, i4⟩ := drop_none hI h2 hx hok2 hok3 hv
    exact ⟨γ2, i1, i2, i3, fun b _ => i4 b⟩
  | fnL hF hsp hl _ hres hok ih =>
    refine fn_core hT hF hsp hl hres (by unfold leaveSome at hok; simp only [Bool.and_eq_true] at hok; exact hok.1) (fun γ γ' w w' N u hI h2 hx hv => ?_) ih
    obtain ⟨γ2, i1, i2, i3, i4⟩ := drop_some hI h2 hx hok hv
    exact ⟨γ2, i1, i2, i3, fun b _ => i4 b⟩
  | fnS hF hsp hl _ hres hok0 hset hok2 hok3 ih =>
    refine fn_core hT hF hsp hl hres hok0 (fun γ γ' w w' N u hI h2 hx hv => ?_) ih
    obtain ⟨κ2, y1, y2, y3, y4, _⟩ := h2.freeze _
    obtain ⟨γ2, i1, i2, i3, i4⟩ := drop_none hI y1 (hx.trans y2) hok2 hok3 (settleV_rep h2 y2 y4 hset hv γ'.O)
    exact ⟨γ2, i1, i2, i3, fun b hb => (i4 b).trans (y3 b hb)⟩
  | fnZ hF hsp hl _ hres hok0 hset hok ih =>
    refine fn_core hT hF hsp hl hres hok0 (fun γ γ' w w' N u hI h2 hx hv => ?_) ih
    obtain ⟨κ2, y1, y2, y3, y4, _⟩ := h2.freeze _
    obtain ⟨γ2, i1, i2, i3, i4⟩ := drop_some hI y1 (hx.trans y2) hok (settleV_rep h2 y2 y4 hset hv γ'.O)
    exact ⟨γ2, i1, i2, i3, fun b hb => (i4 b).trans (y3 b hb)⟩
  | cNil =>
    intro n D todo a w γ N hM ha hd hE hI b cs
    cases hM
    exact ⟨a, w, [], .one step_end, γ, hE, hI, Ext.refl _ _, Below.refl _ _, fun _ _ => rfl, ha, hd⟩
  | cSkip _ ih =>
    intro n D todo a w γ N hM ha hd hE hI b cs
    cases hM with
    | c hok hM =>
      obtain rfl := okC_skip hok
      obtain ⟨a', w', t', hs, hl⟩ := ih n D _ a w γ N hM ha hd hE hI b cs
      exact ⟨a', w', t', .head step_skip hs, hl⟩
  | @cReg kill ais k e e1 e' σ σ1 σ' _ _ ih1 ih2 =>
    intro n D todo a w γ N hM ha hd hE hI b cs
    cases hM with
    | @c _ _ _ todo' hok hM =>
      obtain ⟨id, ops, rfl, hops⟩ := okC_reg hok
      have hw := ih1 n D ops (List.range ops.size) a w γ N (fun ex a' w' => ex = .normal ∧ Leaves G N n D γ σ w e1 σ1 a' w') (by
        have := ML_range ais ops.toList 0 hops (by simp)
        rw [List.range_eq_range']
        simpa using this) ha hd hE hI (fun a' w' h => ⟨rfl, h⟩)
      obtain ⟨ex, a1, w1, ⟨rfl, γ1, q1, q2, q3, q4, q5, q6, q7⟩, harr⟩ := wp_ops _ a w hw b todo' cs
      obtain ⟨a', w', t', hs, hl⟩ := ih2 n D _ a1 w1 γ1 N hM q6 q7 (q1.del kill) q2 b cs
      exact ⟨a', w', t', .head step_region (Steps.trans harr hs), hl.after q3 q4 q5⟩
  | @cDrw kill deps ais k e e1 e' σ σ1 σ' E2 _ hE2 _ ih1 ih2 =>
    intro n D todo a w γ N hM ha hd hE hI b cs
    cases hM with
    | @c _ _ _ todo' hok hM =>
      obtain ⟨id, ops, rfl, hops, hdeps, hmix⟩ := okC_drw hok
      obtain ⟨d1, d2⟩ := hI.drew
      have hlen : deps.length = ops.size := by simpa using (deps_get hdeps).1
      have hsch : ∀ t, Region.schedule (P.follows .mixedOrders) ops t = lin deps t := fun t => by
        unfold Region.schedule
        rw [hmix]
        simpa using lin_eq hdeps t
      have hw := ih1 (w.tape w.drawn (.order b.fn id)) n D ops (lin deps (w.tape w.drawn (.order b.fn id))) a w.drew γ N (fun ex a' w' => ex = .normal ∧ Leaves G N n D γ σ w.drew (E2 (w.tape w.drawn (.order b.fn id))) σ1 a' w')
        (ML_pick hops _ (fun i hi => by rw [← hlen]; exact lin_lt deps _ _ [] (fun i hi => by cases hi) i hi)) ha hd (hE.ext d2) d1 (fun a' w' h => ⟨rfl, h⟩)
      obtain ⟨ex, a1, w1, ⟨rfl, γ1, q1, q2, q3, q4, q5, q6, q7⟩, harr⟩ := wp_ops _ a w.drew hw b todo' cs
      have q1' : RepE γ1 w1 e1 a1.tmps := fun m => by rw [← hE2 (w.tape w.drawn (.order b.fn id)) m]; exact q1 m
      obtain ⟨a', w', t', hs, hl⟩ := ih2 n D _ a1 w1 γ1 N hM q6 q7 (q1'.del kill) q2 b cs
      have hstep := step_region_draw (P := P) (b := b) (a := a) (k := todo') (cs := cs) (w := w) (ops := ops) (id := id)
      rw [hsch] at hstep
      exact ⟨a', w', t', .head hstep (Steps.trans harr hs), (Leaves.after (σ := σ) (σ1 := σ) d2 (Below.refl _ _).drew (fun _ _ => rfl) (Leaves.after (σ := σ) q3 q4 q5 hl))⟩
  | cSeq _ ih =>
    intro n D todo a w γ N hM ha hd hE hI b cs
    cases hM with
    | c hok hM =>
      obtain ⟨c1, c2, rfl, h1, h2⟩ := okC_seq hok
      obtain ⟨a', w', t', hs, hl⟩ := ih n D _ a w γ N (.c h1 (.c h2 hM)) ha hd hE hI b cs
      exact ⟨a', w', t', .head step_seq hs, hl⟩
  | @cCond s kill x y k e e' σ σ' z hc _ ih =>
    intro n D todo a w γ N hM ha hd hE hI b cs
    cases hM with
    | c hok hM =>
      obtain ⟨o, c1, c2, rfl, h1, h2, h3⟩ := okC_cond hok
      have hr := okS_rep (a := a) h1 hE hI
      rw [hc] at hr
      have hz := repC_bool (repV_cell rfl hr)
      obtain ⟨a', w', t', hs, hl⟩ := ih n D _ a w γ N (.c (c := if z then c1 else c2) (by cases z <;> assumption) hM) ha hd (hE.del kill) hI b cs
      exact ⟨a', w', t', .head (step_cond hz) hs, hl⟩
  | cBlk _ ih =>
    intro n D todo a w γ N hM ha hd hE hI b cs
    cases hM with
    | c hok hM =>
      obtain ⟨c1, rfl, h1⟩ := okC_blk hok
      obtain ⟨a', w', t', hs, hl⟩ := ih n D _ a w γ N (.c h1 (.b hM)) ha hd hE hI b cs
      exact ⟨a', w', t', .head step_block hs, hl⟩
  | cEnd _ ih =>
    intro n D todo a w γ N hM ha hd hE hI b cs
    cases hM with
    | b hM =>
      obtain ⟨a', w', t', hs, hl⟩ := ih n D _ a w γ N hM ha hd hE hI b cs
      exact ⟨a', w', t', .head step_inBlock hs, hl⟩
  | cLoop _ ih =>
    intro n D todo a w γ N hM ha hd hE hI b cs
    cases hM with
    | c hok hM =>
      obtain ⟨c1, rfl, h1⟩ := okC_loop hok
      exact ih n D _ a w γ N (.l' h1 hM) ha hd hE hI b cs
  | @cAgain keep c k e e' σ σ' _ ih =>
    intro n D todo a w γ N hM ha hd hE hI b cs
    cases hM with
    | l hok hM =>
      obtain ⟨a', w', t', hs, hl⟩ := ih n D _ a w γ N (.c hok (.l hok hM)) ha hd (hE.keep keep) hI b cs
      exact ⟨a', w', t', .head step_inLoop hs, hl⟩
    | l' hok hM =>
      obtain ⟨a', w', t', hs, hl⟩ := ih n D _ a w γ N (.c hok (.l hok hM)) ha hd (hE.keep keep) hI b cs
      exact ⟨a', w', t', .head step_loop hs, hl⟩
  | cExit hk _ ih =>
    intro n D todo a w γ N hM ha hd hE hI b cs
    cases hM with
    | c hok hM =>
      obtain rfl := okC_exit hok
      obtain ⟨todo', h1, h2⟩ := hM.exit hk
      obtain ⟨a', w', t', hs, hl⟩ := ih n D _ a w γ N h2 ha hd hE hI b cs
      exact ⟨a', w', t', .head (step_exit h1) hs, hl⟩
  | cRet =>
    intro n D todo a w γ N hM ha hd hE hI b cs
    cases hM with
    | c hok hM =>
      obtain rfl := okC_ret hok
      exact ⟨a, w, _, .one step_ret, γ, hE, hI, Ext.refl _ _, Below.refl _ _, fun _ _ => rfl, ha, hd⟩
end Go.Proofs.YtlehfgdhebapeaaDoor.KM
/- Rules by which code of the plain machine is walked. -/
namespace Go.Proofs.YtlehfgdhebapeaaDoor.KM
open Go
variable {T : Nat → Option AF} {pr : Nat → Option (List V → Option V)}

def W (T : Nat → Option AF) (pr : Nat → Option (List V → Option V)) (k : List It) (e : Env) (σ : St) (Q : Env → St → Prop) : Prop := ∃ e' σ', Ev T pr (.code k e σ e' σ') ∧ Q e' σ'
def WO (T : Nat → Option AF) (pr : Nat → Option (List V → Option V)) (l : List AI) (e : Env) (σ : St) (Q : Env → St → Prop) : Prop := ∃ e' σ', Ev T pr (.ops l e σ e' σ') ∧ Q e' σ'
section
variable {Q : Env → St → Prop} {e : Env} {σ : St} {k : List It}
theorem W_seq {a b : AC} (h : W T pr (.c a :: .c b :: k) e σ Q) : W T pr (.c (.seq a b) :: k) e σ Q := let ⟨e', σ', h, q⟩ := h; ⟨e', σ', .cSeq h, q⟩
theorem W_skip (h : W T pr k e σ Q) : W T pr (.c .skip :: k) e σ Q := let ⟨e', σ', h, q⟩ := h; ⟨e', σ', .cSkip h, q⟩
theorem W_blk {id : Nat} {c : AC} (h : W T pr (.c c :: .b id :: k) e σ Q) : W T pr (.c (.blk id c) :: k) e σ Q := let ⟨e', σ', h, q⟩ := h; ⟨e', σ', .cBlk h, q⟩
theorem W_end {id : Nat} (h : W T pr k e σ Q) : W T pr (.b id :: k) e σ Q := let ⟨e', σ', h, q⟩ := h; ⟨e', σ', .cEnd h, q⟩
theorem W_loop {keep : List Nat} {c : AC} (h : W T pr (.l keep c :: k) e σ Q) : W T pr (.c (.loop keep c) :: k) e σ Q := let ⟨e', σ', h, q⟩ := h; ⟨e', σ', .cLoop h, q⟩
theorem W_again {keep : List Nat} {c : AC} (h : W T pr (.c c :: .l keep c :: k) (e.keep keep) σ Q) : W T pr (.l keep c :: k) e σ Q := let ⟨e', σ', h, q⟩ := h; ⟨e', σ', .cAgain h, q⟩
theorem W_exit {id : Nat} {k' : List It} (hk : exitTo id k = some k') (h : W T pr k' e σ Q) : W T pr (.c (.exit id) :: k) e σ Q := let ⟨e', σ', h, q⟩ := h; ⟨e', σ', .cExit hk h, q⟩
theorem W_ret (q : Q e σ) : W T pr (.c .ret :: k) e σ Q := ⟨e, σ, .cRet, q⟩
theorem W_nil (q : Q e σ) : W T pr [] e σ Q := ⟨e, σ, .cNil, q⟩
theorem W_cond {c : S} {kill : List Nat} {x y : AC} {z : Bool} (hc : src e c = .bool z) (h1 : z = true → W T pr (.c x :: k) (e.del kill) σ Q) (h2 : z = false → W T pr (.c y :: k) (e.del kill) σ Q) : W T pr (.c (.cond c kill x y) :: k) e σ Q := by
  cases z with
  | true =>
    obtain ⟨e', σ', h, q⟩ := h1 rfl
    exact ⟨e', σ', .cCond hc h, q⟩
  | false =>
    obtain ⟨e', σ', h, q⟩ := h2 rfl
    exact ⟨e', σ', .cCond hc h, q⟩
theorem W_cond_t {c : S} {kill : List Nat} {x y : AC} (hc : src e c = .bool true) (h : W T pr (.c x :: k) (e.del kill) σ Q) : W T pr (.c (.cond c kill x y) :: k) e σ Q := W_cond hc (fun _ => h) (fun h => by cases h)
theorem W_cond_f {c : S} {kill : List Nat} {x y : AC} (hc : src e c = .bool false) (h : W T pr (.c y :: k) (e.del kill) σ Q) : W T pr (.c (.cond c kill x y) :: k) e σ Q := W_cond hc (fun h => by cases h) (fun _ => h)
/-- a pure function gives a value -/
def Fn (T : Nat → Option AF) (pr : Nat → Option (List V → Option V)) (f : Nat) (vs : List V) (v : V) : Prop := ∃ F, T f = some F ∧ F.thr = false ∧ F.spec = none ∧ ∃ v0 σ0, Ev T pr (.fn f vs [] v0 σ0) ∧ back σ0 v0 = some v
/-- a function, with the objects that it leaves -/
def FnO (T : Nat → Option AF) (pr : Nat → Option (List V → Option V)) (f : Nat) (vs : List V) (v : V) (σ0 : St) : Prop := ∃ F, T f = some F ∧ F.thr = false ∧ F.spec = none ∧ Ev T pr (.fn f vs [] v σ0)
/-- a threaded function -/
def Th (T : Nat → Option AF) (pr : Nat → Option (List V → Option V)) (f : Nat) (vs : List V) (σ : St) (v : V) (σ' : St) : Prop := ∃ F, T f = some F ∧ F.thr = true ∧ F.spec = none ∧ Ev T pr (.fn f vs σ v σ')
/-- any function, on the caller's objects -/
def ThP (T : Nat → Option AF) (pr : Nat → Option (List V → Option V)) (f : Nat) (vs : List V) (σ : St) (v : V) (σ' : St) : Prop := ∃ F, T f = some F ∧ F.spec = none ∧ Ev T pr (.fn f vs σ v σ')
/-- what a function's end asks: nothing of its own objects is named any more -/
def Left (n : Nat) (σ : St) (v : V) (σ1 : St) : Prop := okRes v = true ∧ within n [] v.refs = true ∧ ∀ i ob, i < n → σ1[i]? = some ob → σ[i]? = some ob ∨ within n [] ob.refs = true
theorem Th_intro {f : Nat} {vs : List V} {v : V} {F : AF} {σ' : St} (hT : T f = some F) (ht : F.thr = true) (hsp : F.spec = none) (hl : vs.length = F.pars) (h : W T pr [.c F.body] (parEnv 0 vs) σ fun e' σ1 => resV e' σ1 F.res = some v ∧ Left σ.length σ v σ1 ∧ σ' = σ1.take σ.length) : Th T pr f vs σ v σ' := by
  obtain ⟨e', σ1, hE, hr, ⟨h1, h2, h3⟩, rfl⟩ := h
  exact ⟨F, hT, ht, hsp, .fn hT hsp hl hE hr h1 h2 h3⟩
theorem ThL_intro {f : Nat} {vs : List V} {v : V} {F : AF} {σ' : St} (hT : T f = some F) (ht : F.thr = true) (hsp : F.spec = none) (hl : vs.length = F.pars) (h : W T pr [.c F.body] (parEnv 0 vs) σ fun e' σ1 => ∃ v0 js, resV e' σ1 F.res = some v0 ∧ leaveSome σ.length js v0 σ1 = true ∧ v = v0.ren (ren σ.length js) ∧ σ' = (σ1.take σ.length ++ js.filterMap (σ1[·]?)).map (Ob.ren (ren σ.length js))) : Th T pr f vs σ v σ' := by
  obtain ⟨e', σ1, hE, v0, js, hr, hl2, rfl, rfl⟩ := h
  exact ⟨F, hT, ht, hsp, .fnL hT hsp hl hE hr hl2⟩
/-- a pure function whose result names no object -/
theorem Fn_intro {f : Nat} {vs : List V} {v : V} {F : AF} (hT : T f = some F) (ht : F.thr = false) (hsp : F.spec = none) (hl : vs.length = F.pars) (h : W T pr [.c F.body] (parEnv 0 vs) [] fun e' σ' => ∃ v0, resV e' σ' F.res = some v0 ∧ okRes v0 = true ∧ v0.refs = [] ∧ back [] v0 = some v) : Fn T pr f vs v := by
  obtain ⟨e', σ', hE, v0, hr, ho, hn, hb⟩ := h
  have := Ev.fn (T := T) (pr := pr) hT hsp hl hE hr ho (by rw [hn]; rfl) (fun i ob hi => by simp at hi)
  exact ⟨F, hT, ht, hsp, v0, _, this, hb⟩
/-- a pure function whose result names objects: they are settled -/
theorem FnL_intro {f : Nat} {vs : List V} {v : V} {F : AF} (hT : T f = some F) (ht : F.thr = false) (hsp : F.spec = none) (hl : vs.length = F.pars) (h : W T pr [.c F.body] (parEnv 0 vs) [] fun e' σ1 => ∃ v0 js, resV e' σ1 F.res = some v0 ∧ leaveSome 0 js v0 σ1 = true ∧ back ((js.filterMap (σ1[·]?)).map (Ob.ren (ren 0 js))) (v0.ren (ren 0 js)) = some v) : Fn T pr f vs v := by
  obtain ⟨e', σ', hE, v0, js, hr, hl2, hb⟩ := h
  have := Ev.fnL (T := T) (pr := pr) hT hsp hl hE hr hl2
  exact ⟨F, hT, ht, hsp, _, _, this, by simpa using hb⟩
/-- a threaded function, its result settled, with the objects that it leaves -/
theorem ThZ_intro {f : Nat} {vs : List V} {v : V} {F : AF} {σ' : St} (hT : T f = some F) (ht : F.thr = true) (hsp : F.spec = none) (hl : vs.length = F.pars) (h : W T pr [.c F.body] (parEnv 0 vs) σ fun e' σ1 => ∃ v0 v1 js ks, resV e' σ1 F.res = some v0 ∧ okRes v0 = true ∧ settleV σ1 js v0 = some v1 ∧ leaveSome σ.length ks v1 (σ1.freeze js) = true ∧ v = v1.ren (ren σ.length ks) ∧ σ' = ((σ1.freeze js).take σ.length ++ ks.filterMap ((σ1.freeze js)[·]?)).map (Ob.ren (ren σ.length ks))) : Th T pr f vs σ v σ' := by
  obtain ⟨e', σ1, hE, v0, v1, js, ks, hr, h0, h1, h2, rfl, rfl⟩ := h
  exact ⟨F, hT, ht, hsp, .fnZ hT hsp hl hE hr h0 h1 h2⟩
/-- a pure function, its result settled -/
theorem FnS_intro {f : Nat} {vs : List V} {v : V} {F : AF} (hT : T f = some F) (ht : F.thr = false) (hsp : F.spec = none) (hl : vs.length = F.pars) (h : W T pr [.c F.body] (parEnv 0 vs) [] fun e' σ1 => ∃ v0 js, resV e' σ1 F.res = some v0 ∧ okRes v0 = true ∧ settleV σ1 js v0 = some v ∧ v.refs = [] ∧ back [] v = some v) : Fn T pr f vs v := by
  obtain ⟨e', σ1, hE, v0, js, hr, h0, h1, h2, h3⟩ := h
  have := Ev.fnS (T := T) (pr := pr) hT hsp hl hE hr h0 h1 (by rw [h2]; rfl) (fun i ob hi => by simp at hi)
  exact ⟨F, hT, ht, hsp, v, _, this, by simpa using h3⟩
end
end Go.Proofs.YtlehfgdhebapeaaDoor.KM
/- Regions that draw their order: one walk in the order of the text is enough. -/
namespace Go.Proofs.YtlehfgdhebapeaaDoor.KM
open Go
variable {T : Nat → Option AF} {pr : Nat → Option (List V → Option V)}

def S.rd : S → List Nat
  | .t n => [n]
  | .k _ => []
def S.rdO : Option S → List Nat
  | some s => s.rd
  | none => []
/-- the slots that an operation looks at -/
def AO.rd : AO → List Nat
  | .mov x | .box _ x | .load _ _ x | .chk x | .un _ x | .cvi _ x | .cvs x | .cvl x | .stb _ x | .bts x | .sap _ x | .fad _ x | .fld _ _ _ x | .ext _ x | .len x | .lens x => x.rd
  | .pick c a b => c.rd ++ (a.rd ++ b.rd)
  | .new _ _ | .mmk => []
  | .build _ ps => ps.flatMap fun p => p.2.2.rd
  | .rows _ _ ps | .rowf _ _ ps | .rowo _ _ _ ps => ps.flatMap fun p => p.2.rd
  | .mk _ _ _ x y | .mlk _ x y => x.rd ++ y.rd
  | .mup x k v => x.rd ++ (k.rd ++ v.rd)
  | .mkf _ a c => a.flatMap S.rd ++ c.flatMap S.rd
  | .store _ x v => x.rd ++ v.rd
  | .bin _ x y | .eq _ _ x y | .iad _ x y | .iar _ _ x y | .idx x y | .ida _ _ _ x y | .app _ _ x y | .apps _ x y | .mx x y | .mn x y => x.rd ++ y.rd
  | .slc _ x lo hi m3 => x.rd ++ (S.rdO lo ++ (S.rdO hi ++ S.rdO m3))
  | .slcs x lo hi | .slca _ _ x lo hi => x.rd ++ (S.rdO lo ++ S.rdO hi)
  | .call _ xs => xs.flatMap S.rd
  | .callv x xs => x.rd ++ xs.flatMap S.rd
def AI.rd (i : AI) : List Nat := i.op.rd ++ (match i.g with
  | some (t, _) => [t]
  | none => [])

def Agree (e e' : Env) (l : List Nat) : Prop := ∀ t ∈ l, e.get t = e'.get t
theorem Agree.l {e e' : Env} {a b : List Nat} (h : Agree e e' (a ++ b)) : Agree e e' a := fun t ht => h t (by simp [ht])
theorem Agree.r {e e' : Env} {a b : List Nat} (h : Agree e e' (a ++ b)) : Agree e e' b := fun t ht => h t (by simp [ht])
theorem src_eq {e e' : Env} {s : S} (h : Agree e e' s.rd) : src e s = src e' s := by
  cases s with
  | t n => exact h n (by simp [S.rd])
  | k v => rfl
theorem srcO_eq {e e' : Env} {s : Option S} (h : Agree e e' (S.rdO s)) : s.map (src e) = s.map (src e') := by
  cases s with
  | none => rfl
  | some s => simp only [Option.map_some]; rw [src_eq h]
theorem map_src_eq {e e' : Env} : ∀ {xs : List S}, Agree e e' (xs.flatMap S.rd) → xs.map (src e) = xs.map (src e')
  | [], _ => rfl
  | x :: xs, h => by
    rw [List.flatMap_cons] at h
    rw [List.map_cons, List.map_cons, src_eq h.l, map_src_eq h.r]
theorem evalOp_eq {e e' : Env} {op : AO} (h : Agree e e' op.rd) (σ : St) : evalOp op e σ = evalOp op e' σ := by
  cases op with
  | build z ps =>
    have : (ps.map fun p => (p.1, p.2.1, src e p.2.2)) = ps.map fun p => (p.1, p.2.1, src e' p.2.2) := by
      simp only [AO.rd] at h
      induction ps with
      | nil => rfl
      | cons p ps ih =>
        rw [List.flatMap_cons] at h
        rw [List.map_cons, List.map_cons, src_eq h.l, ih h.r]
    simp only [evalOp, this]
  | rows n z ps =>
    have : (ps.map fun p => (p.1 * z.length, z.length, src e p.2)) = ps.map fun p => (p.1 * z.length, z.length, src e' p.2) := by
      simp only [AO.rd] at h
      induction ps with
      | nil => rfl
      | cons p ps ih =>
        rw [List.flatMap_cons] at h
        rw [List.map_cons, List.map_cons, src_eq h.l, ih h.r]
    simp only [evalOp, this]
  | rowf n z ps =>
    have : (ps.map fun p => (p.1 * z.length, z.length, src e p.2)) = ps.map fun p => (p.1 * z.length, z.length, src e' p.2) := by
      simp only [AO.rd] at h
      induction ps with
      | nil => rfl
      | cons p ps ih =>
        rw [List.flatMap_cons] at h
        rw [List.map_cons, List.map_cons, src_eq h.l, ih h.r]
    simp only [evalOp, this]
  | rowo t n z ps =>
    have : (ps.map fun p => (p.1 * z.length, z.length, src e p.2)) = ps.map fun p => (p.1 * z.length, z.length, src e' p.2) := by
      simp only [AO.rd] at h
      induction ps with
      | nil => rfl
      | cons p ps ih =>
        rw [List.flatMap_cons] at h
        rw [List.map_cons, List.map_cons, src_eq h.l, ih h.r]
    simp only [evalOp, this]
  | call f xs => rfl
  | callv x xs => rfl
  | new t z => rfl
  | mmk => rfl
  | mkf f a c => simp only [evalOp, AO.rd] at h ⊢; rw [map_src_eq h.l, map_src_eq h.r]
  | mup x k v => simp only [evalOp, AO.rd] at h ⊢; rw [src_eq h.l, src_eq h.r.l, src_eq h.r.r]
  | pick c a b => simp only [evalOp, AO.rd] at h ⊢; rw [src_eq h.l, src_eq h.r.l, src_eq h.r.r]
  | slc m x lo hi mx => simp only [evalOp, AO.rd] at h ⊢; rw [src_eq h.l, srcO_eq h.r.l, srcO_eq h.r.r.l, srcO_eq h.r.r.r]
  | slcs x lo hi => simp only [evalOp, AO.rd] at h ⊢; rw [src_eq h.l, srcO_eq h.r.l, srcO_eq h.r.r]
  | slca l m x lo hi => simp only [evalOp, AO.rd] at h ⊢; rw [src_eq h.l, srcO_eq h.r.l, srcO_eq h.r.r]
  | mov x => simp only [evalOp, AO.rd] at h ⊢; rw [src_eq h]
  | box t x => simp only [evalOp, AO.rd] at h ⊢; rw [src_eq h]
  | load n one x => simp only [evalOp, AO.rd] at h ⊢; rw [src_eq h]
  | chk x => simp only [evalOp, AO.rd] at h ⊢; rw [src_eq h]
  | un o x => simp only [evalOp, AO.rd] at h ⊢; rw [src_eq h]
  | cvi k x => simp only [evalOp, AO.rd] at h ⊢; rw [src_eq h]
  | sap k x => simp only [evalOp, AO.rd] at h ⊢; rw [src_eq h]
  | cvs x => simp only [evalOp, AO.rd] at h ⊢; rw [src_eq h]
  | cvl x => simp only [evalOp, AO.rd] at h ⊢; rw [src_eq h]
  | stb t x => simp only [evalOp, AO.rd] at h ⊢; rw [src_eq h]
  | bts x => simp only [evalOp, AO.rd] at h ⊢; rw [src_eq h]
  | fad o x => simp only [evalOp, AO.rd] at h ⊢; rw [src_eq h]
  | fld o n b x => simp only [evalOp, AO.rd] at h ⊢; rw [src_eq h]
  | ext i x => simp only [evalOp, AO.rd] at h ⊢; rw [src_eq h]
  | len x => simp only [evalOp, AO.rd] at h ⊢; rw [src_eq h]
  | lens x => simp only [evalOp, AO.rd] at h ⊢; rw [src_eq h]
  | store n x v => simp only [evalOp, AO.rd] at h ⊢; rw [src_eq h.l, src_eq h.r]
  | bin o x y => simp only [evalOp, AO.rd] at h ⊢; rw [src_eq h.l, src_eq h.r]
  | eq k b x y => simp only [evalOp, AO.rd] at h ⊢; rw [src_eq h.l, src_eq h.r]
  | iad m x y => simp only [evalOp, AO.rd] at h ⊢; rw [src_eq h.l, src_eq h.r]
  | iar l m x y => simp only [evalOp, AO.rd] at h ⊢; rw [src_eq h.l, src_eq h.r]
  | ida l m one x y => simp only [evalOp, AO.rd] at h ⊢; rw [src_eq h.l, src_eq h.r]
  | idx x y => simp only [evalOp, AO.rd] at h ⊢; rw [src_eq h.l, src_eq h.r]
  | app b m x y => simp only [evalOp, AO.rd] at h ⊢; rw [src_eq h.l, src_eq h.r]
  | apps t x y => simp only [evalOp, AO.rd] at h ⊢; rw [src_eq h.l, src_eq h.r]
  | mx x y => simp only [evalOp, AO.rd] at h ⊢; rw [src_eq h.l, src_eq h.r]
  | mn x y => simp only [evalOp, AO.rd] at h ⊢; rw [src_eq h.l, src_eq h.r]
  | mk t b z x y => simp only [evalOp, AO.rd] at h ⊢; rw [src_eq h.l, src_eq h.r]
  | mlk z x y => simp only [evalOp, AO.rd] at h ⊢; rw [src_eq h.l, src_eq h.r]

/-- 0: it leaves the state and does not look at it; 1: it reads; 2: it may change it -/
def cls (T : Nat → Option AF) (pr : Nat → Option (List V → Option V)) : AO → Nat
  | .load _ _ _ => 1
  | .new _ _ | .box _ _ | .store _ _ _ | .app _ _ _ _ | .apps _ _ _ | .rowf _ _ _ | .rowo _ _ _ _ | .mk _ _ _ _ _ | .stb _ _ | .bts _ | .cvl _ | .mmk | .mlk _ _ _ | .mup _ _ _ | .callv _ _ => 2
  | .call f _ => match pr f with
    | some _ => 0
    | none => match T f with
      | some F => if F.thr then 2 else 0
      | none => 2
  | _ => 0

theorem map_calm {σ σ1 : St} {v : V} {x : Option V} (h : x.map (fun v => (v, σ)) = some (v, σ1)) : σ1 = σ ∧ x = some v := by
  cases x with
  | none => simp at h
  | some y => simp at h; exact ⟨h.2.symm, by rw [h.1]⟩
theorem evalOp_calm {op : AO} (h0 : cls T pr op = 0) {e : Env} {σ σ1 : St} {v : V} (h : evalOp op e σ = some (v, σ1)) : σ1 = σ ∧ ∀ σ', evalOp op e σ' = some (v, σ') := by
  cases op with
  | new | box | store | app | apps | load | rowf | rowo | mk | stb | bts | cvl | mmk | mlk | mup | callv => simp [cls] at h0
  | call => simp [evalOp] at h
  | mov x => simp only [evalOp] at h ⊢; cases h; exact ⟨rfl, fun _ => rfl⟩
  | pick c a b =>
    simp only [evalOp] at h ⊢
    split at h
    · cases h; exact ⟨rfl, fun _ => rfl⟩
    · cases h
  | build z ps =>
    simp only [evalOp] at h ⊢
    cases hf : fills z (ps.map fun p => (p.1, p.2.1, src e p.2.2)) with
    | none => rw [hf] at h; simp at h
    | some cs => rw [hf] at h; simp at h; exact ⟨h.2.symm, fun σ' => by simp [h.1]⟩
  | rows n z ps =>
    simp only [evalOp] at h ⊢
    cases hf : fills (List.replicate n z).flatten (ps.map fun p => (p.1 * z.length, z.length, src e p.2)) with
    | none => rw [hf] at h; simp at h
    | some cs =>
      rw [hf] at h
      simp only [Option.bind_some] at h ⊢
      split at h
      · rename_i hs
        cases h
        exact ⟨rfl, fun σ' => by rw [if_pos hs]⟩
      · cases h
  | mkf f a c =>
    simp only [evalOp] at h ⊢
    split at h
    · rename_i hs
      cases h
      exact ⟨rfl, fun σ' => by rw [if_pos hs]⟩
    · cases h
  | slca l m x lo hi =>
    simp only [evalOp] at h ⊢
    split at h
    · simp only [Option.bind_eq_some_iff] at h
      obtain ⟨p, hp, q, hq, h⟩ := h
      split at h
      · rename_i hle
        cases h
        exact ⟨rfl, fun σ' => by simp [hp, hq, hle]⟩
      · cases h
    · cases h
  | chk x =>
    simp only [evalOp] at h ⊢
    split at h
    · cases h; exact ⟨rfl, fun _ => rfl⟩
    · cases h; exact ⟨rfl, fun _ => rfl⟩
    · cases h
  | bin o x y => simp only [evalOp] at h ⊢; obtain ⟨h1, h2⟩ := map_calm h; exact ⟨h1, fun σ' => by rw [h2]; rfl⟩
  | eq k b x y =>
    simp only [evalOp] at h ⊢
    cases hf : eqV k (src e x) (src e y) with
    | none => rw [hf] at h; simp at h
    | some z => rw [hf] at h; simp at h; exact ⟨h.2.symm, fun σ' => by simp [h.1]⟩
  | un o x => simp only [evalOp] at h ⊢; obtain ⟨h1, h2⟩ := map_calm h; exact ⟨h1, fun σ' => by rw [h2]; rfl⟩
  | sap o x => simp only [evalOp] at h ⊢; obtain ⟨h1, h2⟩ := map_calm h; exact ⟨h1, fun σ' => by rw [h2]; rfl⟩
  | cvi k x =>
    simp only [evalOp] at h ⊢
    split at h
    · cases h; exact ⟨rfl, fun _ => rfl⟩
    · cases h
  | cvs x =>
    simp only [evalOp] at h ⊢
    split at h
    · cases h; exact ⟨rfl, fun _ => rfl⟩
    · cases h
  | slc m x lo hi m3 => simp only [evalOp] at h ⊢; obtain ⟨h1, h2⟩ := map_calm h; exact ⟨h1, fun σ' => by rw [h2]; rfl⟩
  | slcs x lo hi => simp only [evalOp] at h ⊢; obtain ⟨h1, h2⟩ := map_calm h; exact ⟨h1, fun σ' => by rw [h2]; rfl⟩
  | fad o x =>
    simp only [evalOp] at h ⊢
    split at h
    · cases h; exact ⟨rfl, fun _ => rfl⟩
    · cases h; exact ⟨rfl, fun _ => rfl⟩
    · cases h
  | fld o n b x =>
    simp only [evalOp] at h ⊢
    split at h
    · split at h
      · rename_i hle
        obtain ⟨h1, h2⟩ := map_calm h
        exact ⟨h1, fun σ' => by simp only [if_pos hle, h2]; rfl⟩
      · cases h
    · cases h
  | iad m x i =>
    simp only [evalOp] at h ⊢
    split at h
    · rename_i t xs e1
      cases hf : atI xs (src e i) with
      | none => rw [hf] at h; simp at h
      | some r =>
        rw [hf] at h
        simp only [Option.bind_some] at h
        split at h
        · rename_i hr
          cases h
          exact ⟨rfl, fun σ' => by simp [hf, hr]⟩
        · cases h
    · split at h
      · split at h
        · rename_i hc
          cases h
          exact ⟨rfl, fun σ' => by simp only [if_pos hc]⟩
        · cases h
      · cases h
    · cases h
  | ida l m one x i =>
    simp only [evalOp] at h ⊢
    split at h
    · split at h
      · rename_i hn
        split at h
        · split at h
          · rename_i hle
            simp only [Option.map_eq_some_iff] at h
            obtain ⟨v', h, h2⟩ := h
            cases h2
            exact ⟨rfl, fun τ => by simp only [if_pos hn, if_pos hle, h, Option.map_some]⟩
          · cases h
        · cases h
      · cases h
    · cases h
  | iar l m x i =>
    simp only [evalOp] at h ⊢
    split at h
    · split at h
      · rename_i hn
        split at h
        · cases h; exact ⟨rfl, fun _ => by simp only [if_pos hn]⟩
        · cases h; exact ⟨rfl, fun _ => by simp only [if_pos hn]⟩
        · cases h
      · cases h
    · cases h
  | idx x i =>
    simp only [evalOp] at h ⊢
    split at h
    · rename_i l e1
      cases hf : atI l (src e i) with
      | none => rw [hf] at h; simp at h
      | some r => rw [hf] at h; simp at h; exact ⟨h.2.symm, fun σ' => by simp [hf, h.1]⟩
    · cases h
  | ext i x =>
    simp only [evalOp] at h ⊢
    split at h
    · rename_i vs e1
      cases hf : vs[i]? with
      | none => rw [hf] at h; simp at h
      | some r => rw [hf] at h; simp at h; exact ⟨h.2.symm, fun σ' => by simp [hf, h.1]⟩
    · cases h
  | len x =>
    simp only [evalOp] at h ⊢
    split at h
    · cases h; exact ⟨rfl, fun _ => rfl⟩
    · cases h; exact ⟨rfl, fun _ => rfl⟩
    · cases h; exact ⟨rfl, fun _ => rfl⟩
    · cases h
  | lens x =>
    simp only [evalOp] at h ⊢
    split at h
    · cases h; exact ⟨rfl, fun _ => rfl⟩
    · cases h
  | mx x y =>
    simp only [evalOp] at h ⊢
    split at h
    · split at h
      · rename_i hk; cases h; exact ⟨rfl, fun _ => by simp only [if_pos hk]⟩
      · cases h
    · cases h
  | mn x y =>
    simp only [evalOp] at h ⊢
    split at h
    · split at h
      · rename_i hk; cases h; exact ⟨rfl, fun _ => by simp only [if_pos hk]⟩
      · cases h
    · cases h

/-- with nothing of the objects in it, what goes over does not look at the state -/
theorem settle_nil (σ σ' : St) : ∀ (d : Nat) (v : V), settle σ [] d v = settle σ' [] d v
  | 0, _ => rfl
  | d + 1, v => by
    unfold settle
    split
    · rfl
    · cases v <;> simp
theorem settle1_nil (σ σ' : St) (v : V) : settle1 σ [] v = settle1 σ' [] v := by
  unfold settle1
  split
  · rfl
  · rw [show settle σ [] 9 = settle σ' [] 9 from funext (settle_nil σ σ' 9)]
  · exact settle_nil σ σ' 9 v
theorem jsOf_nil {σ : St} {args : List V} (h : refsL args = []) : jsOf σ args = [] := by
  unfold jsOf
  rw [h]
  simp [clo]
theorem over_nil {σ : St} {args : List V} (h : refsL args = []) (σ' : St) : over σ' args = over σ args := by
  unfold over
  rw [jsOf_nil h, jsOf_nil h, show settle1 σ' [] = settle1 σ [] from funext (settle1_nil σ' σ)]
theorem after_nil {σ : St} {args : List V} (h : refsL args = []) (v : V) : after σ args v = σ := by
  unfold after
  rw [jsOf_nil h]
  split <;> rfl

/-- one operation's step, of those that a region with a drawn order may hold -/
inductive Stp (T : Nat → Option AF) (pr : Nat → Option (List V → Option V)) : AI → Env → St → V → St → Prop
  | off {i : AI} {e : Env} {σ : St} : wantedB e i = some false → Stp T pr i e σ .skp σ
  | val {i : AI} {e : Env} {σ σ1 : St} {v : V} : wantedB e i = some true → evalOp i.op e σ = some (v, σ1) → Stp T pr i e σ v σ1
  | prim {d : Option Nat} {g : Option (Nat × Bool)} {f : Nat} {xs : List S} {e : Env} {σ : St} {s : List V → Option V} {vs : List V} {v : V} : wantedB e ⟨d, .call f xs, g⟩ = some true → pr f = some s → refsL (xs.map (src e)) = [] →
      over [] (xs.map (src e)) = some vs → s vs = some v → Stp T pr ⟨d, .call f xs, g⟩ e σ v σ
  | pure {d : Option Nat} {g : Option (Nat × Bool)} {f : Nat} {xs : List S} {e : Env} {σ : St} {vs : List V} {v : V} : wantedB e ⟨d, .call f xs, g⟩ = some true → refsL (xs.map (src e)) = [] →
      over [] (xs.map (src e)) = some vs → Fn T pr f vs v → Stp T pr ⟨d, .call f xs, g⟩ e σ v σ
  | thr {d : Option Nat} {g : Option (Nat × Bool)} {f : Nat} {xs : List S} {e : Env} {σ σ1 : St} {F : AF} {v : V} : wantedB e ⟨d, .call f xs, g⟩ = some true → T f = some F → F.thr = true → F.spec = none → pr f = none →
      Ev T pr (.fn f (xs.map (src e)) σ v σ1) → Stp T pr ⟨d, .call f xs, g⟩ e σ v σ1
  | spec {d : Option Nat} {g : Option (Nat × Bool)} {f : Nat} {xs : List S} {e : Env} {σ σ1 : St} {F : AF} {s : List V → St → Option (V × St)} {v : V} : wantedB e ⟨d, .call f xs, g⟩ = some true → T f = some F → F.thr = true → F.spec = some s → pr f = none →
      s (xs.map (src e)) σ = some (v, σ1) → Stp T pr ⟨d, .call f xs, g⟩ e σ v σ1
  | vprim {d : Option Nat} {g : Option (Nat × Bool)} {f : Nat} {x : S} {xs : List S} {args : List V} {e : Env} {σ : St} {s : List V → Option V} {vs : List V} {v : V} : wantedB e ⟨d, .callv x xs, g⟩ = some true → calleeOf e (.callv x xs) = some (f, args) → pr f = some s →
      over σ args = some vs → s vs = some v → Stp T pr ⟨d, .callv x xs, g⟩ e σ v (after σ args v)
  | vpure {d : Option Nat} {g : Option (Nat × Bool)} {f : Nat} {x : S} {xs : List S} {args : List V} {e : Env} {σ : St} {vs : List V} {v : V} : wantedB e ⟨d, .callv x xs, g⟩ = some true → calleeOf e (.callv x xs) = some (f, args) →
      over σ args = some vs → Fn T pr f vs v → Stp T pr ⟨d, .callv x xs, g⟩ e σ v (after σ args v)
  | vthr {d : Option Nat} {g : Option (Nat × Bool)} {f : Nat} {x : S} {xs : List S} {args : List V} {e : Env} {σ σ1 : St} {F : AF} {v : V} : wantedB e ⟨d, .callv x xs, g⟩ = some true → calleeOf e (.callv x xs) = some (f, args) → T f = some F → F.thr = true → F.spec = none →
      Ev T pr (.fn f args σ v σ1) → Stp T pr ⟨d, .callv x xs, g⟩ e σ v σ1
theorem Stp.ev {i : AI} {l : List AI} {e e' : Env} {σ σ1 σ' : St} {v : V} (h : Stp T pr i e σ v σ1) (g : Ev T pr (.ops l (e.putO i.dst v) σ1 e' σ')) : Ev T pr (.ops (i :: l) e σ e' σ') := by
  cases h with
  | off hw => exact .opsSkip hw g
  | val hw hv => exact .opsVal hw hv g
  | prim hw hp hn hx hs => exact .opsPrim hw rfl hp ((over_nil hn _).trans hx) hs (by rw [after_nil hn]; exact g)
  | pure hw hn hx hf =>
    obtain ⟨F, h1, h2, hsp, v0, σ0, h3, h4⟩ := hf
    exact .opsPure hw rfl h1 h2 hsp ((over_nil hn _).trans hx) h3 h4 (by rw [after_nil hn]; exact g)
  | thr hw h1 h2 hsp _ h3 => exact .opsThr hw rfl h1 h2 hsp h3 g
  | spec hw h1 h2 hsp _ h3 => exact .opsSpec hw rfl h1 h2 hsp h3 g
  | vprim hw hc hp hx hs => exact .opsPrim hw hc hp hx hs g
  | vpure hw hc hx hf =>
    obtain ⟨F, h1, h2, hsp, v0, σ0, h3, h4⟩ := hf
    exact .opsPure hw hc h1 h2 hsp hx h3 h4 g
  | vthr hw hc h1 h2 hsp h3 => exact .opsThr hw hc h1 h2 hsp h3 g

theorem wanted_agree {e e' : Env} {i : AI} (h : Agree e e' i.rd) : wantedB e i = wantedB e' i := by
  unfold wantedB
  cases hg : i.g with
  | none => rfl
  | some p =>
    obtain ⟨t, b⟩ := p
    have := h t (by simp [AI.rd, hg])
    simp only [this]
theorem callee_agree {e e' : Env} {x : S} {xs : List S} (h : Agree e e' (AO.callv x xs).rd) : calleeOf e (.callv x xs) = calleeOf e' (.callv x xs) := by
  have h' : Agree e e' (x.rd ++ xs.flatMap S.rd) := h
  simp only [calleeOf]
  rw [src_eq h'.l, map_src_eq h'.r]
/-- a step looks at its slots alone; a calm one does not look at the state; one that reads, at what it reads -/
theorem Stp.move {i : AI} {e e' : Env} {σ σ1 : St} {v : V} (h : Stp T pr i e σ v σ1) (ha : Agree e e' i.rd) :
    Stp T pr i e' σ v σ1 ∧ (cls T pr i.op ≠ 2 → σ1 = σ) ∧ (cls T pr i.op = 0 → ∀ σ', Stp T pr i e' σ' v σ') ∧
    (∀ n one x, i.op = .load n one x → ∀ σ', loadV σ' n one (src e x) = loadV σ n one (src e x) → Stp T pr i e' σ' v σ') := by
  have hw := wanted_agree ha
  cases h with
  | off h => exact ⟨.off (hw ▸ h), fun _ => rfl, fun _ σ' => .off (hw ▸ h), fun _ _ _ _ σ' _ => .off (hw ▸ h)⟩
  | val h hv =>
    have he := evalOp_eq (op := i.op) ha.l
    refine ⟨.val (hw ▸ h) (he σ ▸ hv), fun hc => ?_, fun hc σ' => ?_, fun n one x hop σ' hl => ?_⟩
    · by_cases h0 : cls T pr i.op = 0
      · exact (evalOp_calm h0 hv).1
      · cases hop : i.op with
        | load n one x =>
          rw [hop] at hv
          simp only [evalOp, Option.map_eq_some_iff] at hv
          obtain ⟨_, _, h⟩ := hv
          cases h
          rfl
        | _ => rw [hop] at h0 hc hv; simp [cls] at h0 hc <;> simp [evalOp] at hv
    · exact .val (hw ▸ h) (he σ' ▸ (evalOp_calm hc hv).2 σ')
    · refine .val (hw ▸ h) (he σ' ▸ ?_)
      rw [hop] at hv ⊢
      simp only [evalOp] at hv ⊢
      rw [hl]
      cases hl2 : loadV σ n one (src e x) with
      | none => rw [hl2] at hv; simp at hv
      | some y => rw [hl2] at hv; simp at hv; simp [hv.1]
  | prim h hp hn hx hs =>
    have hm := map_src_eq (xs := _) (show Agree e e' _ from ha.l)
    rw [hm] at hx hn
    exact ⟨.prim (hw ▸ h) hp hn hx hs, fun _ => rfl, fun _ σ' => .prim (hw ▸ h) hp hn hx hs, fun _ _ _ hop => by cases hop⟩
  | pure h hn hx hf =>
    have hm := map_src_eq (xs := _) (show Agree e e' _ from ha.l)
    rw [hm] at hx hn
    exact ⟨.pure (hw ▸ h) hn hx hf, fun _ => rfl, fun _ σ' => .pure (hw ▸ h) hn hx hf, fun _ _ _ hop => by cases hop⟩
  | spec h h1 h2 hsp hp h3 =>
    have hm := map_src_eq (xs := _) (show Agree e e' _ from ha.l)
    rw [hm] at h3
    refine ⟨.spec (hw ▸ h) h1 h2 hsp hp h3, fun hc => ?_, fun hc => ?_, fun _ _ _ hop => by cases hop⟩
    · simp [cls, hp, h1, h2] at hc
    · simp [cls, hp, h1, h2] at hc
  | thr h h1 h2 hsp hp h3 =>
    have hm := map_src_eq (xs := _) (show Agree e e' _ from ha.l)
    rw [hm] at h3
    refine ⟨.thr (hw ▸ h) h1 h2 hsp hp h3, fun hc => ?_, fun hc => ?_, fun _ _ _ hop => by cases hop⟩
    · simp [cls, hp, h1, h2] at hc
    · simp [cls, hp, h1, h2] at hc
  | vprim h hc hp hx hs => exact ⟨.vprim (hw ▸ h) (by rw [← callee_agree ha.l]; exact hc) hp hx hs, fun hc => by simp [cls] at hc, fun hc => by simp [cls] at hc, fun _ _ _ hop => by cases hop⟩
  | vpure h hc hx hf => exact ⟨.vpure (hw ▸ h) (by rw [← callee_agree ha.l]; exact hc) hx hf, fun hc => by simp [cls] at hc, fun hc => by simp [cls] at hc, fun _ _ _ hop => by cases hop⟩
  | vthr h hc h1 h2 hsp h3 => exact ⟨.vthr (hw ▸ h) (by rw [← callee_agree ha.l]; exact hc) h1 h2 hsp h3, fun hc => by simp [cls] at hc, fun hc => by simp [cls] at hc, fun _ _ _ hop => by cases hop⟩

end Go.Proofs.YtlehfgdhebapeaaDoor.KM
/- Regions that draw their order: the theorem. -/
namespace Go.Proofs.YtlehfgdhebapeaaDoor.KM
open Go
variable {T : Nat → Option AF} {pr : Nat → Option (List V → Option V)}

/-- i comes ahead of j -/
def befB (deps : List (List Nat)) : Nat → Nat → Nat → Bool
  | 0, _, _ => false
  | f + 1, j, i => (deps.getD j []).any fun d => d == i || befB deps f d i
def pairB (T : Nat → Option AF) (pr : Nat → Option (List V → Option V)) (x y : AI) : Bool :=
  (match x.dst with
    | some d => !y.rd.elem d && !(y.dst == some d)
    | none => true) && ((match y.dst with
    | some d => !x.rd.elem d
    | none => true) && !(cls T pr x.op == 2 && cls T pr y.op == 2))
def staticB (T : Nat → Option AF) (pr : Nat → Option (List V → Option V)) (deps : List (List Nat)) (ops : List AI) : Bool :=
  deps.length == ops.length && (List.range ops.length).all fun j => ((deps.getD j []).all fun d => decide (d < j)) && (List.range j).all fun i => befB deps ops.length j i || (match ops[i]?, ops[j]? with
    | some x, some y => pairB T pr x y
    | _, _ => false)

end Go.Proofs.YtlehfgdhebapeaaDoor.KM
/- Regions that draw their order: every order comes to the text's own end. -/
namespace Go.Proofs.YtlehfgdhebapeaaDoor.KM
open Go
variable {T : Nat → Option AF} {pr : Nat → Option (List V → Option V)}

theorem nodup_len : ∀ (n : Nat) (l : List Nat), l.Nodup → (∀ x ∈ l, x < n) → l.length ≤ n
  | 0, [], _, _ => Nat.le_refl _
  | 0, x :: _, _, h => absurd (h x (by simp)) (by omega)
  | n + 1, l, hn, h => by
    have h1 := nodup_len n (l.erase n) (hn.erase n) (fun x hx => by
      have := (List.Nodup.mem_erase_iff hn).1 hx
      have := h x this.2
      omega)
    rw [List.length_erase] at h1
    split at h1 <;> omega
theorem len_of_all : ∀ (n : Nat) (l : List Nat), (∀ j, j < n → j ∈ l) → n ≤ l.length
  | 0, _, _ => Nat.zero_le _
  | n + 1, l, h => by
    have h1 := len_of_all n (l.erase n) (fun j hj => (List.mem_erase_of_ne (by omega)).2 (h j (by omega)))
    have hn := h n (by omega)
    rw [List.length_erase, if_pos hn] at h1
    have := List.length_pos_of_mem hn
    omega
theorem covers {n : Nat} {l : List Nat} (hn : l.Nodup) (h : ∀ x ∈ l, x < n) (hl : l.length = n) {j : Nat} (hj : j < n) : j ∈ l := by
  rcases Classical.em (j ∈ l) with h' | h'
  · exact h'
  · have := nodup_len n (j :: l) (List.nodup_cons.2 ⟨h', hn⟩) (fun x hx => by
      rcases List.mem_cons.1 hx with rfl | hx
      · exact hj
      · exact h x hx)
    simp at this
    omega

def linRem (deps : List (List Nat)) : Nat → Nat → List Nat → List Nat
  | 0, _, _ => []
  | fuel + 1, t, acc =>
    match ((List.range deps.length).filter (readyB deps acc))[t % ((List.range deps.length).filter (readyB deps acc)).length]? with
    | some i => i :: linRem deps fuel (t / ((List.range deps.length).filter (readyB deps acc)).length) (i :: acc)
    | none => []
theorem linGo_eq (deps : List (List Nat)) : ∀ (fuel t : Nat) (acc : List Nat), linGo deps fuel t acc = acc.reverse ++ linRem deps fuel t acc
  | 0, _, acc => by simp [linGo, linRem]
  | fuel + 1, t, acc => by
    unfold linGo linRem
    simp only
    split
    · rename_i i hi
      rw [linGo_eq deps fuel _ (i :: acc), hi]
      simp
    · rename_i hi
      rw [hi]
      simp

section
variable {deps : List (List Nat)} {ops : List AI} {e e1 : Env} {σ σ1 : St} {env : Nat → Env} {st : Nat → St} {val : Nat → V}

def DC (deps : List (List Nat)) (acc : List Nat) : Prop := ∀ j ∈ acc, ∀ d ∈ deps.getD j [], d ∈ acc
theorem bef_mem {acc : List Nat} (h : DC deps acc) : ∀ (f j i : Nat), befB deps f j i = true → j ∈ acc → i ∈ acc
  | 0, _, _, hb, _ => by simp [befB] at hb
  | f + 1, j, i, hb, hj => by
    simp only [befB, List.any_eq_true, Bool.or_eq_true, beq_iff_eq] at hb
    obtain ⟨d, hd, hb⟩ := hb
    have hda := h j hj d hd
    rcases hb with rfl | hb
    · exact hda
    · exact bef_mem h f d i hb hda
theorem bef_ready {acc : List Nat} (h : DC deps acc) {f j i : Nat} (hr : ∀ d ∈ deps.getD j [], d ∈ acc) (hb : befB deps f j i = true) : i ∈ acc := by
  cases f with
  | zero => simp [befB] at hb
  | succ f =>
    simp only [befB, List.any_eq_true, Bool.or_eq_true, beq_iff_eq] at hb
    obtain ⟨d, hd, hb⟩ := hb
    rcases hb with rfl | hb
    · exact hr d hd
    · exact bef_mem h f d i hb (hr d hd)

def dstAt (ops : List AI) (j : Nat) : Option Nat := (ops[j]?).bind (·.dst)
def EnvOK (ops : List AI) (val : Nat → V) (e : Env) (M : Nat → Prop) (E : Env) : Prop :=
  ∀ t, (∃ j, M j ∧ dstAt ops j = some t ∧ (∀ j', M j' → dstAt ops j' = some t → j' ≤ j) ∧ E.get t = val j) ∨ ((∀ j, M j → dstAt ops j ≠ some t) ∧ E.get t = e.get t)
theorem EnvOK.put {M : Nat → Prop} {E : Env} {i : Nat} {x : AI} (h : EnvOK ops val e M E) (hx : ops[i]? = some x) (hlt : ∀ j t, M j → x.dst = some t → dstAt ops j = some t → j < i) : EnvOK ops val e (fun j => j = i ∨ M j) (E.putO x.dst (val i)) := by
  intro t
  have hdi : dstAt ops i = x.dst := by simp [dstAt, hx]
  cases hd : x.dst with
  | none =>
    simp only [Env.putO]
    rcases h t with ⟨j, h1, h2, h3, h4⟩ | ⟨h1, h2⟩
    · exact .inl ⟨j, .inr h1, h2, fun j' hj' ht => by
        rcases hj' with rfl | hj'
        · rw [hdi, hd] at ht; cases ht
        · exact h3 j' hj' ht, h4⟩
    · exact .inr ⟨fun j hj => by
        rcases hj with rfl | hj
        · rw [hdi, hd]; simp
        · exact h1 j hj, h2⟩
  | some d =>
    simp only [Env.putO]
    rw [Env.get_put]
    by_cases hdt : d = t
    · subst hdt
      rw [if_pos rfl]
      exact .inl ⟨i, .inl rfl, by rw [hdi, hd], fun j' hj' ht => by
        rcases hj' with rfl | hj'
        · exact Nat.le_refl _
        · exact Nat.le_of_lt (hlt j' d hj' hd ht), rfl⟩
    · rw [if_neg hdt]
      rcases h t with ⟨j, h1, h2, h3, h4⟩ | ⟨h1, h2⟩
      · exact .inl ⟨j, .inr h1, h2, fun j' hj' ht => by
          rcases hj' with rfl | hj'
          · rw [hdi, hd] at ht; cases ht; exact absurd rfl hdt
          · exact h3 j' hj' ht, h4⟩
      · exact .inr ⟨fun j hj => by
          rcases hj with rfl | hj
          · rw [hdi, hd]; intro h; cases h; exact hdt rfl
          · exact h1 j hj, h2⟩
theorem EnvOK.same {M M' : Nat → Prop} {E E' : Env} (h : EnvOK ops val e M E) (h' : EnvOK ops val e M' E') {t : Nat} (ht : ∀ j, dstAt ops j = some t → (M j ↔ M' j)) : E.get t = E'.get t := by
  rcases h t with ⟨j, h1, h2, h3, h4⟩ | ⟨h1, h2⟩
  · rcases h' t with ⟨k, k1, k2, k3, k4⟩ | ⟨k1, k2⟩
    · have a1 := h3 k ((ht k k2).2 k1) k2
      have a2 := k3 j ((ht j h2).1 h1) h2
      rw [h4, k4, Nat.le_antisymm a2 a1]
    · exact absurd h2 (k1 j ((ht j h2).1 h1))
  · rcases h' t with ⟨k, k1, k2, k3, k4⟩ | ⟨k1, k2⟩
    · exact absurd k2 (h1 k ((ht k k2).2 k1))
    · rw [h2, k2]

theorem EnvOK.iff {M M' : Nat → Prop} {E : Env} (h : EnvOK ops val e M E) (hm : ∀ j, M j ↔ M' j) : EnvOK ops val e M' E := by
  have : M = M' := funext fun j => propext (hm j)
  rw [← this]; exact h

end

end Go.Proofs.YtlehfgdhebapeaaDoor.KM
/- Regions that draw their order and whose reads and writes are ordered by their edges: walked as if in text order. -/
namespace Go.Proofs.YtlehfgdhebapeaaDoor.KM
open Go
variable {T : Nat → Option AF} {pr : Nat → Option (List V → Option V)}

def rwB (T : Nat → Option AF) (pr : Nat → Option (List V → Option V)) (x y : AI) : Bool := !((cls T pr x.op == 1 && cls T pr y.op == 2) || (cls T pr x.op == 2 && cls T pr y.op == 1))
def statB (T : Nat → Option AF) (pr : Nat → Option (List V → Option V)) (deps : List (List Nat)) (ops : List AI) : Bool :=
  staticB T pr deps ops && (List.range ops.length).all fun j => (List.range j).all fun i => befB deps ops.length j i || (match ops[i]?, ops[j]? with
    | some x, some y => rwB T pr x y
    | _, _ => false)

section
variable {Q : Env → St → Prop} {e : Env} {σ : St}
end
end Go.Proofs.YtlehfgdhebapeaaDoor.KM
/- The plain machine as a function: what code gives, by equations. Whatever it gives comes of the code in the sense of Ev. -/
namespace Go.Proofs.YtlehfgdhebapeaaDoor.KM
open Go
variable {T : Nat → Option AF} {pr : Nat → Option (List V → Option V)}

abbrev RunC := List It → Env → St → Option (Env × St)
abbrev RunF := Nat → List V → St → Option (V × St)

/-- what a function hands back -/
def finF (F : AF) (n : Nat) (p : Env × St) : Option (V × St) := (resV p.1 p.2 F.res).bind fun v => leave n v p.2
def bodyF (rc : RunC) (F : AF) (vs : List V) (σ : St) : Option (V × St) :=
  if vs.length = F.pars then (rc [.c F.body] (parEnv 0 vs) σ).bind (finF F σ.length) else none
def pureF (rc : RunC) (F : AF) (args : List V) (σ : St) : Option (V × St) :=
  (over σ args).bind fun ws => (bodyF rc F ws []).bind fun p => (back p.2 p.1).map fun v => (v, after σ args v)
/-- a call; in a region with a drawn order nothing of the objects goes over to a pure function -/
def callF (T : Nat → Option AF) (pr : Nat → Option (List V → Option V)) (rc : RunC) (strict : Bool) : RunF := fun f args σ =>
  match pr f with
  | some s => if strict && !(refsL args).isEmpty then none else (over σ args).bind fun ws => (s ws).map fun v => (v, after σ args v)
  | none => match T f with
    | none => none
    | some F => match F.thr, F.spec with
      | true, some s => s args σ
      | true, none => bodyF rc F args σ
      | false, none => if strict && !(refsL args).isEmpty then none else pureF rc F args σ
      | false, some _ => none
def isCallv : AO → Bool
  | .callv _ _ => true
  | _ => false
def isCall : AO → Bool
  | .call _ _ | .callv _ _ => true
  | _ => false
def opF (rf : Bool → RunF) (strict : Bool) (op : AO) (e : Env) (σ : St) : Option (V × St) :=
  if isCall op then (if strict && isCallv op then none else (calleeOf e op).bind fun p => rf strict p.1 p.2 σ) else evalOp op e σ
def opsF (rf : Bool → RunF) (strict : Bool) : List AI → Env → St → Option (Env × St)
  | [], e, σ => some (e, σ)
  | i :: l, e, σ => match wantedB e i with
    | some true => (opF rf strict i.op e σ).bind fun p => opsF rf strict l (e.putO i.dst p.1) p.2
    | some false => opsF rf strict l (e.putO i.dst .skp) σ
    | none => none
def boolV : V → Option Bool
  | .bool b => some b
  | _ => none
def stepC (rc : RunC) (rf : Bool → RunF) : RunC := fun k e σ =>
  match k with
  | [] => some (e, σ)
  | .b _ :: k => rc k e σ
  | .l keep c :: k => rc (.c c :: .l keep c :: k) (e.keep keep) σ
  | .c c :: k => match c with
    | .skip => rc k e σ
    | .reg kill ops => (opsF rf false ops e σ).bind fun p => rc k (p.1.del kill) p.2
    | .drw kill _ ops => (opsF rf true ops e σ).bind fun p => rc k (p.1.del kill) p.2
    | .seq a b => rc (.c a :: .c b :: k) e σ
    | .cond c kill x y => (boolV (src e c)).bind fun z => rc (.c (if z then x else y) :: k) (e.del kill) σ
    | .blk id c => rc (.c c :: .b id :: k) e σ
    | .loop keep c => rc (.l keep c :: k) e σ
    | .exit id => (exitTo id k).bind fun k' => rc k' e σ
    | .ret => some (e, σ)
/-! more steps give no other result -/
def LeC (a b : RunC) : Prop := ∀ k e σ r, a k e σ = some r → b k e σ = some r
def LeF (a b : Bool → RunF) : Prop := ∀ s f vs σ r, a s f vs σ = some r → b s f vs σ = some r
theorem LeC.body {a b : RunC} (h : LeC a b) {F : AF} {vs : List V} {σ : St} {r : V × St} (hr : bodyF a F vs σ = some r) : bodyF b F vs σ = some r := by
  unfold bodyF at hr ⊢
  split at hr
  · rename_i hl
    rw [if_pos hl]
    obtain ⟨p, hp, hr⟩ := Option.bind_eq_some_iff.1 hr
    rw [h _ _ _ _ hp]
    exact hr
  · cases hr
theorem LeC.pure {a b : RunC} (h : LeC a b) {F : AF} {vs : List V} {σ : St} {r : V × St} (hr : pureF a F vs σ = some r) : pureF b F vs σ = some r := by
  unfold pureF at hr ⊢
  obtain ⟨ws, hw, hr⟩ := Option.bind_eq_some_iff.1 hr
  obtain ⟨p, hp, hr⟩ := Option.bind_eq_some_iff.1 hr
  rw [hw, Option.bind_some, h.body hp]
  exact hr
theorem LeC.call {a b : RunC} (h : LeC a b) : LeF (callF T pr a) (callF T pr b) := by
  intro s f vs σ r hr
  unfold callF at hr ⊢
  split at hr
  · exact hr
  · split at hr
    · cases hr
    · split at hr
      · exact hr
      · exact h.body hr
      · split at hr
        · cases hr
        · rename_i hs
          rw [if_neg hs]
          exact h.pure hr
      · cases hr
theorem LeF.op {a b : Bool → RunF} (h : LeF a b) {s : Bool} {op : AO} {e : Env} {σ : St} {r : V × St} (hr : opF a s op e σ = some r) : opF b s op e σ = some r := by
  unfold opF at hr ⊢
  split at hr
  · rename_i hc
    rw [if_pos hc]
    split at hr
    · cases hr
    · rename_i hs
      rw [if_neg hs]
      obtain ⟨p, hp, hr⟩ := Option.bind_eq_some_iff.1 hr
      rw [hp, Option.bind_some]
      exact h _ _ _ _ _ hr
  · rename_i hc
    rw [if_neg hc]
    exact hr
theorem LeF.ops {a b : Bool → RunF} (h : LeF a b) {s : Bool} : ∀ {l : List AI} {e : Env} {σ : St} {r : Env × St}, opsF a s l e σ = some r → opsF b s l e σ = some r
  | [], _, _, _, hr => hr
  | i :: l, e, σ, r, hr => by
    unfold opsF at hr ⊢
    split at hr
    · obtain ⟨p, hp, hr⟩ := Option.bind_eq_some_iff.1 hr
      rw [h.op hp]
      exact h.ops hr
    · exact h.ops hr
    · cases hr
theorem LeC.step {a b : RunC} {fa fb : Bool → RunF} (h : LeC a b) (hf : LeF fa fb) : LeC (stepC a fa) (stepC b fb) := by
  intro k e σ r hr
  unfold stepC at hr ⊢
  split at hr
  · exact hr
  · exact h _ _ _ _ hr
  · exact h _ _ _ _ hr
  · split at hr
    · exact h _ _ _ _ hr
    · obtain ⟨p, hp, hr⟩ := Option.bind_eq_some_iff.1 hr
      rw [hf.ops hp]
      exact h _ _ _ _ hr
    · obtain ⟨p, hp, hr⟩ := Option.bind_eq_some_iff.1 hr
      rw [hf.ops hp]
      exact h _ _ _ _ hr
    · exact h _ _ _ _ hr
    · obtain ⟨p, hp, hr⟩ := Option.bind_eq_some_iff.1 hr
      rw [hp]
      exact h _ _ _ _ hr
    · exact h _ _ _ _ hr
    · exact h _ _ _ _ hr
    · obtain ⟨p, hp, hr⟩ := Option.bind_eq_some_iff.1 hr
      rw [hp]
      exact h _ _ _ _ hr
    · exact hr
/-! what the function gives comes of the code -/
def statC (T : Nat → Option AF) (pr : Nat → Option (List V → Option V)) : AC → Bool
  | .drw _ deps ops => statB T pr deps ops
  | .seq a b => statC T pr a && statC T pr b
  | .cond _ _ a b => statC T pr a && statC T pr b
  | .blk _ c => statC T pr c
  | .loop _ c => statC T pr c
  | _ => true
section
variable (hst : ∀ f F, T f = some F → F.spec = none → statC T pr F.body = true)
theorem leave_ev {n : Nat} {v v' : V} {σ1 σ' : St} (h : leave n v σ1 = some (v', σ')) : (okRes v = true ∧ within n [] v.refs = true ∧ (∀ i ob, i < n → σ1[i]? = some ob → within n [] ob.refs = true) ∧ v' = v ∧ σ' = σ1.take n) ∨ ∃ js, leaveSome n js v σ1 = true ∧ v' = v.ren (ren n js) ∧ σ' = (σ1.take n ++ js.filterMap (σ1[·]?)).map (Ob.ren (ren n js)) := by
  unfold leave at h
  split at h
  · rename_i hn
    cases h
    unfold leaveNone at hn
    simp only [Bool.and_eq_true, List.all_eq_true] at hn
    exact .inl ⟨hn.1, hn.2.1, fun i ob hi ho => hn.2.2 ob (List.mem_of_getElem? (by rw [List.getElem?_take, if_pos hi]; exact ho)), rfl, rfl⟩
  · simp only at h
    split at h
    · rename_i hs
      cases h
      exact .inr ⟨_, hs, rfl, rfl⟩
    · cases h
/-- what a call gives -/
inductive CallR (T : Nat → Option AF) (pr : Nat → Option (List V → Option V)) (strict : Bool) (f : Nat) (args : List V) (σ : St) : V → St → Prop
  | prim {s : List V → Option V} {ws : List V} {v : V} : pr f = some s → (strict = true → refsL args = []) → over σ args = some ws → s ws = some v → CallR T pr strict f args σ v (after σ args v)
  | pure {ws : List V} {v : V} : (strict = true → refsL args = []) → over σ args = some ws → Fn T pr f ws v → CallR T pr strict f args σ v (after σ args v)
  | thr {F : AF} {v : V} {σ1 : St} : pr f = none → T f = some F → F.thr = true → F.spec = none → Ev T pr (.fn f args σ v σ1) → CallR T pr strict f args σ v σ1
  | spec {F : AF} {s : List V → St → Option (V × St)} {v : V} {σ1 : St} : pr f = none → T f = some F → F.thr = true → F.spec = some s → s args σ = some (v, σ1) → CallR T pr strict f args σ v σ1
theorem op_call {rf : Bool → RunF} {s : Bool} {op : AO} {e : Env} {σ : St} {r : V × St} (h : opF rf s op e σ = some r) : (isCall op = false ∧ evalOp op e σ = some r) ∨ ∃ f args, calleeOf e op = some (f, args) ∧ rf s f args σ = some r ∧ (s = true → ∃ xs, op = .call f xs ∧ args = xs.map (src e)) := by
  unfold opF at h
  split at h
  · rename_i hc
    split at h
    · cases h
    · rename_i hs
      obtain ⟨⟨f, args⟩, hp, h⟩ := Option.bind_eq_some_iff.1 h
      refine .inr ⟨f, args, hp, h, fun hst => ?_⟩
      subst hst
      cases op with
      | call f' xs =>
        simp only [calleeOf] at hp
        cases hp
        exact ⟨xs, rfl, rfl⟩
      | callv x xs => simp [isCallv] at hs
      | _ => simp [isCall] at hc
  · rename_i hc
    exact .inl ⟨by simpa using hc, h⟩
end
end Go.Proofs.YtlehfgdhebapeaaDoor.KM
