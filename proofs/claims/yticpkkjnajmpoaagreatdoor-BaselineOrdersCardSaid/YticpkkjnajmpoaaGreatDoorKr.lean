/- THE PLAIN MACHINE IS RIGHT: the theorem. -/
import Derived.Test.YticpkkjnajmpoaaGreatDoorKq
set_option linter.all false
namespace Go.Proofs.YticpkkjnajmpoaaGreatDoor.KM
open Go Go.RowKit
variable {P : Program} {G : List (Nat × List V)} {T : Nat → Option AF} {pr : Nat → Option (List V → Option V)}

theorem ML_range {n : Nat} {ops : Array Oper} : ∀ (ais : List AI) (os : List Oper) (k : Nat), okOps P G n ops ais os = true → ops.toList.drop k = os → ML P G n ops ais (List.range' k os.length)
  | [], [], _, _, _ => trivial
  | i :: ais, o :: os, k, h, hd => by
    simp only [okOps, Bool.and_eq_true] at h
    have hk : ops[k]? = some o := by
      have : (ops.toList.drop k)[0]? = some o := by rw [hd]; rfl
      simpa using this
    refine ⟨⟨o, hk, h.1⟩, ML_range ais os (k + 1) h.2 ?_⟩
    rw [← List.drop_drop, hd]; rfl
  | [], _ :: _, _, h, _ => by simp [okOps] at h
  | _ :: _, [], _, h, _ => by simp [okOps] at h
theorem okOps_get {n : Nat} {ops : Array Oper} : ∀ {ais : List AI} {os : List Oper}, okOps P G n ops ais os = true → ais.length = os.length ∧ ∀ (i : Nat) (o : Oper), os[i]? = some o → ∃ ai, ais[i]? = some ai ∧ okAI P G n ops ai o = true
  | [], [], _ => ⟨rfl, fun i o h => by simp at h⟩
  | a :: ais, o :: os, h => by
    simp only [okOps, Bool.and_eq_true] at h
    obtain ⟨l, g⟩ := okOps_get h.2
    refine ⟨by simp [l], fun i o' ho => ?_⟩
    cases i with
    | zero => simp at ho; subst ho; exact ⟨a, rfl, h.1⟩
    | succ i => simpa using g i o' (by simpa using ho)
  | [], _ :: _, h => by simp [okOps] at h
  | _ :: _, [], h => by simp [okOps] at h
theorem ML_pick {n : Nat} {ops : Array Oper} {ais : List AI} (h : okOps P G n ops ais ops.toList = true) : ∀ (L : List Nat), (∀ i ∈ L, i < ops.size) → ML P G n ops (pickAI ais L) L
  | [], _ => trivial
  | j :: L, hL => by
    have hj := hL j (by simp)
    obtain ⟨ai, h1, h2⟩ := (okOps_get h).2 j ops[j] (by simp [hj])
    unfold pickAI
    rw [List.filterMap_cons, h1]
    exact ⟨⟨ops[j], Array.getElem?_eq_getElem hj, h2⟩, ML_pick h L (fun i hi => hL i (by simp [hi]))⟩
theorem lin_lt (deps : List (List Nat)) : ∀ (fuel t : Nat) (acc : List Nat), (∀ i ∈ acc, i < deps.length) → ∀ i ∈ linGo deps fuel t acc, i < deps.length
  | 0, _, acc, h => fun i hi => h i (by simpa [linGo] using hi)
  | fuel + 1, t, acc, h => by
    intro i hi
    unfold linGo at hi
    simp only at hi
    split at hi
    · rename_i j hj
      refine lin_lt deps fuel _ (j :: acc) (fun k hk => ?_) i hi
      rcases List.mem_cons.1 hk with rfl | hk
      · have := (List.mem_filter.1 (List.mem_of_getElem? hj)).1
        simpa using this
      · exact h k hk
    · exact h i (by simpa using hi)

theorem parEnv_get : ∀ (vs : List V) (k n : Nat), (parEnv k vs).get n = if k ≤ n then vs.getD (n - k) .und else .und
  | [], k, n => by simp [parEnv, Env.get]
  | v :: vs, k, n => by
    simp only [parEnv, Env.get]
    by_cases h : k = n
    · subst h; simp
    · rw [if_neg h, parEnv_get vs (k + 1) n]
      by_cases h2 : k + 1 ≤ n
      · rw [if_pos h2, if_pos (by omega)]
        rw [show n - k = (n - (k + 1)) + 1 by omega]
        simp
      · rw [if_neg h2]
        rw [if_neg (by omega)]

section
variable {n : Nat} {c : Code}
theorem okC_skip (h : okC P G n .skip c = true) : c = .skip := by cases c <;> simp [okC] at h; rfl
theorem okC_reg {kill : List Nat} {ais : List AI} (h : okC P G n (.reg kill ais) c = true) : ∃ id ops, c = .region id ops false ∧ okOps P G n ops ais ops.toList = true := by
  cases c with
  | region id ops d =>
    cases d with
    | false => exact ⟨id, ops, rfl, h⟩
    | true => cases h
  | _ => cases h
theorem okC_drw {kill : List Nat} {deps : List (List Nat)} {ais : List AI} (h : okC P G n (.drw kill deps ais) c = true) : ∃ id ops, c = .region id ops true ∧ okOps P G n ops ais ops.toList = true ∧ depsOk deps ops.toList = true ∧ P.follows .mixedOrders = true := by
  cases c with
  | region id ops d =>
    cases d with
    | false => cases h
    | true =>
      simp only [okC, Bool.and_eq_true] at h
      exact ⟨id, ops, rfl, h⟩
  | _ => cases h
theorem okC_seq {x y : AC} (h : okC P G n (.seq x y) c = true) : ∃ c1 c2, c = .seq c1 c2 ∧ okC P G n x c1 = true ∧ okC P G n y c2 = true := by
  cases c <;> simp [okC] at h
  exact ⟨_, _, rfl, h⟩
theorem okC_cond {s : S} {kill : List Nat} {x y : AC} (h : okC P G n (.cond s kill x y) c = true) : ∃ o c1 c2, c = .cond o c1 c2 ∧ okS G s o = true ∧ okC P G n x c1 = true ∧ okC P G n y c2 = true := by
  cases c <;> simp [okC] at h
  exact ⟨_, _, _, rfl, h⟩
theorem okC_blk {id : Nat} {x : AC} (h : okC P G n (.blk id x) c = true) : ∃ c1, c = .block id c1 ∧ okC P G n x c1 = true := by
  cases c <;> simp [okC] at h
  obtain ⟨rfl, h⟩ := h
  exact ⟨_, rfl, h⟩
theorem okC_loop {keep : List Nat} {x : AC} (h : okC P G n (.loop keep x) c = true) : ∃ c1, c = .loop c1 ∧ okC P G n x c1 = true := by
  cases c <;> simp [okC] at h
  exact ⟨_, rfl, h⟩
theorem okC_exit {id : Nat} (h : okC P G n (.exit id) c = true) : c = .exit id := by
  cases c <;> simp [okC] at h
  rw [h]
theorem okC_ret (h : okC P G n .ret c = true) : c = .ret := by cases c <;> simp [okC] at h; rfl
end

/-- a call's own objects are given up -/
theorem Ext.len {N : Nat} {γ γ' : Gh} {σ σ' : St} {w w' : World} (hI : Inv G N γ σ w) (h : Inv G N γ' σ' w') (hx : Ext γ w γ' w') : σ.length ≤ σ'.length := by
  rw [← hI.len, ← h.len]
  rcases Nat.eq_zero_or_pos γ.O.length with h0 | h0
  · omega
  · obtain ⟨b1, g1, h1, _⟩ := hx.obj (γ.O.length - 1) (γ.O[γ.O.length - 1]'(by omega)).1 (γ.O[γ.O.length - 1]'(by omega)).2 (List.getElem?_eq_getElem _)
    have := (List.getElem?_eq_some_iff.1 h1).1
    omega
theorem ext_leave {N : Nat} {γ γ' : Gh} {σ : St} {w w' : World} {X : List (Nat × Nat)} (hI : Inv G N γ σ w) (hx : Ext γ w γ' w') : Ext γ w ⟨γ'.κ, γ'.O.take σ.length ++ X⟩ w' :=
  ⟨hx.kap, hx.cell, fun i blk g hi => by
    obtain ⟨b1, g1, h1, h2, h3⟩ := hx.obj i blk g hi
    have hil : i < σ.length := by rw [← hI.len]; exact (List.getElem?_eq_some_iff.1 hi).1
    refine ⟨b1, g1, ?_, h2, h3⟩
    show (γ'.O.take σ.length ++ X)[i]? = _
    rw [List.getElem?_append_left (by have := (List.getElem?_eq_some_iff.1 h1).1; simp; omega), List.getElem?_take, if_pos hil]
    exact h1⟩
theorem within_mem {n : Nat} {js is : List Nat} (h : within n js is = true) : ∀ i ∈ is, i < n ∨ i ∈ js := fun i hi => by
  have := List.all_eq_true.1 h i hi
  simp only [Bool.or_eq_true, decide_eq_true_eq, List.elem_iff] at this
  exact this
theorem drop_none {N : Nat} {γ γ' : Gh} {σ σ' : St} {w w' : World} {v : V} {u : Value} (hI : Inv G N γ σ w) (h : Inv G N γ' σ' w') (hx : Ext γ w γ' w') (hv : within σ.length [] v.refs = true)
    (hb : ∀ i ob, i < σ.length → σ'[i]? = some ob → σ[i]? = some ob ∨ within σ.length [] ob.refs = true) (hr : RepV γ' w' v u) :
    ∃ γ2, RepV γ2 w' v u ∧ Inv G N γ2 (σ'.take σ.length) w' ∧ Ext γ w γ2 w' ∧ ∀ b, γ2.κ b = γ'.κ b := by
  obtain ⟨i1, i2⟩ := h.leave (n := σ.length) (js := []) (ρ := fun i => i) (Ext.len hI h hx) (fun i hi => by cases hi) List.nodup_nil (fun _ _ => rfl) (fun k hk => by simp at hk) (fun i ob hi ho j hj => by
    rcases hi with hi | hi
    · rcases hb i ob hi ho with h1 | h1
      · obtain ⟨p, _, hok⟩ := hI.of h1
        exact .inl (by rw [← hI.len]; exact hok.refs_lt j hj)
      · exact within_mem h1 j hj
    · cases hi)
  have e1 : (σ'.take σ.length ++ ([] : List Nat).filterMap (σ'[·]?)).map (Ob.ren fun i => i) = σ'.take σ.length := by
    simp only [List.filterMap_nil, List.append_nil]
    have : (Ob.ren fun i => i) = id := funext ob_ren_id
    rw [this, List.map_id]
  rw [e1] at i1
  have hr2 := hr.renum (O := γ'.O.take σ.length ++ ([] : List Nat).filterMap (γ'.O[·]?)) (ρ := fun i => i) (fun i hi p hp => i2 i (within_mem hv i hi) p hp)
  rw [ren_id] at hr2
  exact ⟨_, hr2, i1, ext_leave hI hx, fun _ => rfl⟩
theorem drop_some {N : Nat} {γ γ' : Gh} {σ σ' : St} {w w' : World} {v : V} {u : Value} {js : List Nat} (hI : Inv G N γ σ w) (h : Inv G N γ' σ' w') (hx : Ext γ w γ' w') (hl : leaveSome σ.length js v σ' = true) (hr : RepV γ' w' v u) :
    ∃ γ2, RepV γ2 w' (v.ren (ren σ.length js)) u ∧ Inv G N γ2 ((σ'.take σ.length ++ js.filterMap (σ'[·]?)).map (Ob.ren (ren σ.length js))) w' ∧ Ext γ w γ2 w' ∧ ∀ b, γ2.κ b = γ'.κ b := by
  unfold leaveSome at hl
  simp only [Bool.and_eq_true, decide_eq_true_eq, List.all_eq_true] at hl
  obtain ⟨_, hv, hobs, hnd, hjs⟩ := hl
  obtain ⟨i1, i2⟩ := h.leave (n := σ.length) (js := js) (ρ := ren σ.length js) (Ext.len hI h hx) hjs hnd (fun i hi => by simp [ren, hi]) (fun k hk => by
    have hk2 := (hjs js[k] (List.getElem_mem hk)).1
    unfold ren
    rw [if_neg (by omega)]
    congr 1
    have hf : js.findIdx (· == js[k]) < js.length := List.findIdx_lt_length_of_exists ⟨js[k], List.getElem_mem hk, by simp⟩
    have hg := List.findIdx_getElem (w := hf)
    have hg' : js[js.findIdx (· == js[k])] = js[k] := by simpa using hg
    exact nodup_get hnd (List.getElem?_eq_getElem hf) (by rw [hg']; exact List.getElem?_eq_getElem hk)) (fun i ob hi ho j hj => by
    refine within_mem (hobs ob ?_) j hj
    rw [List.mem_append]
    rcases hi with hi | hi
    · exact .inl (List.mem_of_getElem? (by rw [List.getElem?_take, if_pos hi]; exact ho))
    · exact .inr (List.mem_filterMap.2 ⟨i, hi, ho⟩))
  exact ⟨_, hr.renum (fun i hi p hp => i2 i (within_mem hv i hi) p hp), i1, ext_leave hI hx, fun _ => rfl⟩

theorem sound (hT : ∀ f F, T f = some F → F.spec = none → okF P G f F = true) (hS : ∀ f F s, T f = some F → F.spec = some s → ThrOk P G f s) (hpr : ∀ f s, pr f = some s → PrimOk P G f s) {j : J} (h : Ev T pr j) : Shown P G j := by
  induction h with
  | opsNil =>
    intro n ops L a w γ N Q hM ha hd hE hI hQ
    cases L with
    | nil => exact hQ a w ⟨γ, hE, hI, Ext.refl _ _, Below.refl _ _, fun _ _ => rfl, ha, hd⟩
    | cons => exact hM.elim
  | opsSkip hw _ ih =>
    intro n ops L a w γ N Q hM ha hd hE hI hQ
    obtain ⟨j, js, o, rfl, ho, hok, hM'⟩ := hM.tail
    obtain ⟨k1, k2, k3, k4⟩ := okAI_split hok
    refine wp_off ho (wanted_eq k3 ha hE hw) ?_
    obtain ⟨p1, p2, p3⟩ := put_rep (u := undef) k2 ha hE .skp
    rw [k1] at p1 p2 p3
    exact ih n ops js _ w γ N Q hM' p2 (p3.trans hd) (by rw [k1]; exact p1) hI hQ
  | @opsVal i l e e' σ σ1 σ' v hw hv _ ih =>
    intro n ops L a w γ N Q hM ha hd hE hI hQ
    obtain ⟨j, js, o, rfl, ho, hok, hM'⟩ := hM.tail
    obtain ⟨k1, k2, k3, k4⟩ := okAI_split hok
    refine wp_on (n := n) ho (wanted_eq k3 ha hE hw) ?_
    have k4' : okOp P G i.op o.op = true := by
      split at k4
      · rename_i f xs e1
        rw [e1] at hv
        simp [evalOp] at hv
      · rename_i s xs e1
        rw [e1] at hv
        simp [evalOp] at hv
      · exact k4
    obtain ⟨u, w1, γ1, hr, hv1, hI1, hx1, hb1, hk1⟩ := opSim k4' hE hI hv
    obtain ⟨p1, p2, p3⟩ := put_rep (u := u) k2 ha (hE.ext hx1) hv1
    have next : wpOps P ops Q js (a.put o.dst u) w1 := by
      rw [← k1]
      exact ih n ops js _ w1 γ1 N Q hM' p2 (p3.trans hd) p1 hI1 (fun a' w' hl => hQ a' w' (hl.after hx1 hb1 hk1))
    unfold Oper.wp
    rcases hr with hr | ⟨hr, rfl⟩
    · rw [hr]; exact next
    · rw [hr]; exact next
  | @opsPrim i f args l e e' σ σ' s vs v hw hc hp hx hs _ ih =>
    intro n ops L a w γ N Q hM ha hd hE hI hQ
    obtain ⟨j, js, o, rfl, ho, hok, hM'⟩ := hM.tail
    obtain ⟨k1, k2, k3, k4⟩ := okAI_split hok
    refine wp_on (n := n) ho (wanted_eq k3 ha hE hw) ?_
    obtain ⟨⟨fn, c, hf, hb, hn⟩, hprim⟩ := hpr f s hp
    obtain ⟨us, hrun, hul, hur⟩ := call_enter (ops := ops) (n := n) k4 hc hE hI hf hb hn
    obtain ⟨κ1, z1, z2, z3, z4, _⟩ := hI.freeze (jsOf σ args)
    obtain ⟨ml, mg⟩ := mapM_get hx
    unfold Oper.wp
    rw [hrun]
    have hI0 := inv_pure z1
    refine (hprim κ1 w vs us v hI0.glob (fun g r hg => (hI0.gsz g r hg).2) z1.dom (by omega) (fun j hj => ?_) hs).mono ?_
    · have hja : j < args.length := by omega
      obtain ⟨y, hy, hfy⟩ := mg j _ (List.getElem?_eq_getElem hja)
      rw [show vs.getD j .und = y by rw [List.getD_eq_getElem?_getD, hy]; rfl]
      have := hur j hja
      rw [show args.getD j .und = args[j] by rw [List.getD_eq_getElem?_getD, List.getElem?_eq_getElem hja]; rfl] at this
      exact settle1_rep hI z2 z4 hfy this []
    rintro _ w1 ⟨u, κ', rfl, hu, hbl, hk, hdom⟩
    obtain ⟨γ1, q1, q2, q3, q4, q5⟩ := after_call (args := args) hI z1 z2 z3 hbl hk hdom hu
    obtain ⟨p1, p2, p3⟩ := put_rep (u := u) k2 ha (hE.ext q2) q3
    show wpOps P ops Q js (a.put o.dst u) w1
    rw [← k1]
    exact ih n ops js _ w1 _ N Q hM' p2 (p3.trans hd) p1 q1 (fun a' w' hl => hQ a' w' (hl.after q2 q5 q4))
  | @opsPure i f args l e e' σ σ0 σ' F vs v v' hw hc hF hthr hsp hx _ hv _ ihf ih =>
    intro n ops L a w γ N Q hM ha hd hE hI hQ
    obtain ⟨j, js, o, rfl, ho, hok, hM'⟩ := hM.tail
    obtain ⟨k1, k2, k3, k4⟩ := okAI_split hok
    refine wp_on (n := n) ho (wanted_eq k3 ha hE hw) ?_
    obtain ⟨fn, c, hf, hb, _, _, _, hn⟩ := okF_some (hT f F hF hsp)
    obtain ⟨us, hrun, hul, hur⟩ := call_enter (ops := ops) (n := n) k4 hc hE hI hf hb hn
    obtain ⟨κ1, z1, z2, z3, z4, _⟩ := hI.freeze (jsOf σ args)
    obtain ⟨ml, mg⟩ := mapM_get hx
    unfold Oper.wp
    rw [hrun]
    have hI0 := inv_pure z1
    refine (ihf us w ⟨κ1, []⟩ w.heap.size (by omega) (fun j hj => ?_) hI0).mono ?_
    · have hja : j < args.length := by omega
      obtain ⟨y, hy, hfy⟩ := mg j _ (List.getElem?_eq_getElem hja)
      rw [show vs.getD j .und = y by rw [List.getD_eq_getElem?_getD, hy]; rfl]
      have := hur j hja
      rw [show args.getD j .und = args[j] by rw [List.getD_eq_getElem?_getD, List.getElem?_eq_getElem hja]; rfl] at this
      exact .one (settle1_rep hI z2 z4 hfy this [])
    rintro _ w1 ⟨u, γ', rfl, hu, hI', hx', hbl, hk⟩
    obtain ⟨κ2, y1, y2, y3, y4, _⟩ := hI'.freeze (clo σ0 9 v.refs.eraseDups)
    have hu2 : RepV ⟨κ2, []⟩ w1 v' u := settleV_rep hI' y2 y4 hv hu []
    obtain ⟨γ1, q1, q2, q3, q4, q5⟩ := after_call (args := args) hI z1 z2 z3 hbl (fun b hlt => (y3 b hlt).trans (hk b hlt)) y1.dom hu2
    obtain ⟨p1, p2, p3⟩ := put_rep (u := u) k2 ha (hE.ext q2) q3
    show wpOps P ops Q js (a.put o.dst u) w1
    rw [← k1]
    exact ih n ops js _ w1 _ N Q hM' p2 (p3.trans hd) p1 q1 (fun a' w' hl => hQ a' w' (hl.after q2 q5 q4))
  | @opsThr i f args l e e' σ σ1 σ' F v hw hc hF hthr hsp _ _ ihf ih =>
    intro n ops L a w γ N Q hM ha hd hE hI hQ
    obtain ⟨j, js, o, rfl, ho, hok, hM'⟩ := hM.tail
    obtain ⟨k1, k2, k3, k4⟩ := okAI_split hok
    refine wp_on (n := n) ho (wanted_eq k3 ha hE hw) ?_
    obtain ⟨fn, c, hf, hb, _, _, _, hn⟩ := okF_some (hT f F hF hsp)
    obtain ⟨us, hrun, hul, hur⟩ := call_enter (ops := ops) (n := n) k4 hc hE hI hf hb hn
    unfold Oper.wp
    rw [hrun]
    refine (ihf us w γ N hul hur hI).mono ?_
    rintro _ w1 ⟨u, γ', rfl, hu, hI', hx', hbl, hk⟩
    obtain ⟨p1, p2, p3⟩ := put_rep (u := u) k2 ha (hE.ext hx') hu
    show wpOps P ops Q js (a.put o.dst u) w1
    rw [← k1]
    exact ih n ops js _ w1 _ N Q hM' p2 (p3.trans hd) p1 hI' (fun a' w' hl => hQ a' w' (hl.after hx' hbl hk))
  | @opsSpec i f args l e e' σ σ1 σ' F s v hw hc hF hthr hsp hs _ ih =>
    intro n ops L a w γ N Q hM ha hd hE hI hQ
    obtain ⟨j, js, o, rfl, ho, hok, hM'⟩ := hM.tail
    obtain ⟨k1, k2, k3, k4⟩ := okAI_split hok
    refine wp_on (n := n) ho (wanted_eq k3 ha hE hw) ?_
    obtain ⟨⟨fn, c, hf, hb, hn⟩, hthrok⟩ := hS f F s hF hsp
    obtain ⟨us, hrun, hul, hur⟩ := call_enter (ops := ops) (n := n) k4 hc hE hI hf hb hn
    unfold Oper.wp
    rw [hrun]
    refine (hthrok _ σ v σ1 hs us w γ N hul hur hI).mono ?_
    rintro _ w1 ⟨u, γ', rfl, hu, hI', hx', hbl, hk⟩
    obtain ⟨p1, p2, p3⟩ := put_rep (u := u) k2 ha (hE.ext hx') hu
    show wpOps P ops Q js (a.put o.dst u) w1
    rw [← k1]
    exact ih n ops js _ w1 _ N Q hM' p2 (p3.trans hd) p1 hI' (fun a' w' hl => hQ a' w' (hl.after hx' hbl hk))
  | @fn f args σ σ' e' F v hF hsp hl _ hres hok1 hok2 hok3 ih =>
    intro us w γ N hlen hrep hI
    obtain ⟨fn, c, hf, hb, hC, hR, hpars, hn⟩ := okF_some (hT f F hF hsp)
    intro cs
    let b : Frame := { (default : Frame) with fn := f, kind := .normal }
    have hsz : (us.toArray ++ Array.replicate (fn.ntmps - us.toArray.size) undef).size = fn.ntmps := by simp; omega
    have henter : Frame.enter P f us.toArray .normal = b.at { tmps := us.toArray ++ Array.replicate (fn.ntmps - us.toArray.size) undef, defers := [] } [.code c] := by
      simp [Frame.enter, Frame.at, hf, hb, b]
    have hE0 : RepE γ w (parEnv 0 args) (us.toArray ++ Array.replicate (fn.ntmps - us.toArray.size) undef) := fun m => by
      rw [parEnv_get, if_pos (Nat.zero_le _), Nat.sub_zero]
      by_cases hm : m < args.length
      · have := hrep m hm
        have e1 : (us.toArray ++ Array.replicate (fn.ntmps - us.toArray.size) undef).getD m undef = us.getD m undef := by
          rw [Array.getD_eq_getD_getElem?, Array.getElem?_append_left (by simp; omega), List.getElem?_toArray, List.getD_eq_getElem?_getD]
        rw [e1]
        exact this
      · rw [show args.getD m .und = .und by rw [List.getD_eq_getElem?_getD, List.getElem?_eq_none (by omega)]; rfl]
        exact .und
    obtain ⟨a', w', todo', hs, γ', g1, g2, g3, g4, g5, g6, g7⟩ := ih fn.ntmps [.code c] { tmps := us.toArray ++ Array.replicate (fn.ntmps - us.toArray.size) undef, defers := [] } w γ N (.c hC .nil) hsz rfl hE0 hI b cs
    rw [← henter] at hs
    -- the results
    have hresults : ∃ u, (results fn a'.tmps).run P w' = .ok u w' ∧ RepV γ' w' v u := by
      have hmap : ∀ us' : List Value, (fn.results.toList.mapM (resSem a'.tmps)).run P w' = .ok us' w' → (results fn a'.tmps).run P w' = .ok (if h : us'.toArray.size = 1 then us'.toArray[0] else .tuple us'.toArray) w' := fun us' h => by
        have e1 : results fn a'.tmps = (do let vs ← fn.results.mapM (resSem a'.tmps); pure (if h : vs.size = 1 then vs[0] else .tuple vs)) := by
          unfold results
          congr 2
        rw [e1, Array.mapM_eq_mapM_toList]
        simp [h]
      unfold resV at hres
      split at hres
      · rename_i r hr1
        rw [hr1] at hR
        have hm : [r].mapM (resOne e' σ') = some [v] := by simp [hres]
        obtain ⟨us', k1, k2, k3, k4⟩ := run_res (P := P) g1 g2 hR hm
        obtain ⟨u, rfl⟩ := List.length_eq_one_iff.1 (show us'.length = 1 by simpa using k2.symm)
        refine ⟨u, by simpa using hmap [u] k1, ?_⟩
        simpa using k4 0 (by simp)
      · rename_i rs hne
        simp only [Option.map_eq_some_iff] at hres
        obtain ⟨vs, hm, rfl⟩ := hres
        obtain ⟨us', k1, k2, k3, k4⟩ := run_res (P := P) g1 g2 hR hm
        have hl1 : us'.length ≠ 1 := fun h1 => by
          have : F.res.length = 1 := by
            have := (mapM_get hm).1
            omega
          obtain ⟨r, hr⟩ := List.length_eq_one_iff.1 this
          exact hne r hr
        refine ⟨.tuple us'.toArray, by simpa [hl1] using hmap us' k1, .tup k2 (fun j hj => ?_)⟩
        refine rep1_of ?_ (k4 j hj)
        have := List.all_eq_true.1 (show vs.all okRes1 = true from hok1) (vs.getD j .und) (by rw [List.getD_eq_getElem?_getD, List.getElem?_eq_getElem hj]; exact List.getElem_mem hj)
        exact this
    obtain ⟨u, hu, hv⟩ := hresults
    obtain ⟨γ2, i1, i2, i3⟩ := drop_none hI g2 g3 hok2 hok3 hv
    exact ⟨.returned u, w', _, ⟨u, γ2, rfl, i1, i2, i3.1, g4, fun b hb => (i3.2 b).trans (g5 b hb)⟩, hs, rfl, rfl, g7, rfl, fn, hf, hu⟩
  | @fnL f args σ σ' e' F v kj hF hsp hl _ hres hok ih =>
    intro us w γ N hlen hrep hI
    have hok1 : okRes v = true := by unfold leaveSome at hok; simp only [Bool.and_eq_true] at hok; exact hok.1
    obtain ⟨fn, c, hf, hb, hC, hR, hpars, hn⟩ := okF_some (hT f F hF hsp)
    intro cs
    let b : Frame := { (default : Frame) with fn := f, kind := .normal }
    have hsz : (us.toArray ++ Array.replicate (fn.ntmps - us.toArray.size) undef).size = fn.ntmps := by simp; omega
    have henter : Frame.enter P f us.toArray .normal = b.at { tmps := us.toArray ++ Array.replicate (fn.ntmps - us.toArray.size) undef, defers := [] } [.code c] := by
      simp [Frame.enter, Frame.at, hf, hb, b]
    have hE0 : RepE γ w (parEnv 0 args) (us.toArray ++ Array.replicate (fn.ntmps - us.toArray.size) undef) := fun m => by
      rw [parEnv_get, if_pos (Nat.zero_le _), Nat.sub_zero]
      by_cases hm : m < args.length
      · have := hrep m hm
        have e1 : (us.toArray ++ Array.replicate (fn.ntmps - us.toArray.size) undef).getD m undef = us.getD m undef := by
          rw [Array.getD_eq_getD_getElem?, Array.getElem?_append_left (by simp; omega), List.getElem?_toArray, List.getD_eq_getElem?_getD]
        rw [e1]
        exact this
      · rw [show args.getD m .und = .und by rw [List.getD_eq_getElem?_getD, List.getElem?_eq_none (by omega)]; rfl]
        exact .und
    obtain ⟨a', w', todo', hs, γ', g1, g2, g3, g4, g5, g6, g7⟩ := ih fn.ntmps [.code c] { tmps := us.toArray ++ Array.replicate (fn.ntmps - us.toArray.size) undef, defers := [] } w γ N (.c hC .nil) hsz rfl hE0 hI b cs
    rw [← henter] at hs
    -- the results
    have hresults : ∃ u, (results fn a'.tmps).run P w' = .ok u w' ∧ RepV γ' w' v u := by
      have hmap : ∀ us' : List Value, (fn.results.toList.mapM (resSem a'.tmps)).run P w' = .ok us' w' → (results fn a'.tmps).run P w' = .ok (if h : us'.toArray.size = 1 then us'.toArray[0] else .tuple us'.toArray) w' := fun us' h => by
        have e1 : results fn a'.tmps = (do let vs ← fn.results.mapM (resSem a'.tmps); pure (if h : vs.size = 1 then vs[0] else .tuple vs)) := by
          unfold results
          congr 2
        rw [e1, Array.mapM_eq_mapM_toList]
        simp [h]
      unfold resV at hres
      split at hres
      · rename_i r hr1
        rw [hr1] at hR
        have hm : [r].mapM (resOne e' σ') = some [v] := by simp [hres]
        obtain ⟨us', k1, k2, k3, k4⟩ := run_res (P := P) g1 g2 hR hm
        obtain ⟨u, rfl⟩ := List.length_eq_one_iff.1 (show us'.length = 1 by simpa using k2.symm)
        refine ⟨u, by simpa using hmap [u] k1, ?_⟩
        simpa using k4 0 (by simp)
      · rename_i rs hne
        simp only [Option.map_eq_some_iff] at hres
        obtain ⟨vs, hm, rfl⟩ := hres
        obtain ⟨us', k1, k2, k3, k4⟩ := run_res (P := P) g1 g2 hR hm
        have hl1 : us'.length ≠ 1 := fun h1 => by
          have : F.res.length = 1 := by
            have := (mapM_get hm).1
            omega
          obtain ⟨r, hr⟩ := List.length_eq_one_iff.1 this
          exact hne r hr
        refine ⟨.tuple us'.toArray, by simpa [hl1] using hmap us' k1, .tup k2 (fun j hj => ?_)⟩
        refine rep1_of ?_ (k4 j hj)
        have := List.all_eq_true.1 (show vs.all okRes1 = true from hok1) (vs.getD j .und) (by rw [List.getD_eq_getElem?_getD, List.getElem?_eq_getElem hj]; exact List.getElem_mem hj)
        exact this
    obtain ⟨u, hu, hv⟩ := hresults
    obtain ⟨γ2, i1, i2, i3⟩ := drop_some hI g2 g3 hok hv
    exact ⟨.returned u, w', _, ⟨u, γ2, rfl, i1, i2, i3.1, g4, fun b hb => (i3.2 b).trans (g5 b hb)⟩, hs, rfl, rfl, g7, rfl, fn, hf, hu⟩
  | cNil =>
    intro n todo a w γ N hM ha hd hE hI b cs
    cases hM
    exact ⟨a, w, [], .one step_end, γ, hE, hI, Ext.refl _ _, Below.refl _ _, fun _ _ => rfl, ha, hd⟩
  | cSkip _ ih =>
    intro n todo a w γ N hM ha hd hE hI b cs
    cases hM with
    | c hok hM =>
      obtain rfl := okC_skip hok
      obtain ⟨a', w', t', hs, hl⟩ := ih n _ a w γ N hM ha hd hE hI b cs
      exact ⟨a', w', t', .head step_skip hs, hl⟩
  | @cReg kill ais k e e1 e' σ σ1 σ' _ _ ih1 ih2 =>
    intro n todo a w γ N hM ha hd hE hI b cs
    cases hM with
    | @c _ _ _ todo' hok hM =>
      obtain ⟨id, ops, rfl, hops⟩ := okC_reg hok
      have hw := ih1 n ops (List.range ops.size) a w γ N (fun ex a' w' => ex = .normal ∧ Leaves G N n γ σ w e1 σ1 a' w') (by
        have := ML_range ais ops.toList 0 hops (by simp)
        rw [List.range_eq_range']
        simpa using this) ha hd hE hI (fun a' w' h => ⟨rfl, h⟩)
      obtain ⟨ex, a1, w1, ⟨rfl, γ1, q1, q2, q3, q4, q5, q6, q7⟩, harr⟩ := wp_ops _ a w hw b todo' cs
      obtain ⟨a', w', t', hs, hl⟩ := ih2 n _ a1 w1 γ1 N hM q6 q7 (q1.del kill) q2 b cs
      exact ⟨a', w', t', .head step_region (Steps.trans harr hs), hl.after q3 q4 q5⟩
  | @cDrw kill deps ais k e e1 e' σ σ1 σ' E2 _ hE2 _ ih1 ih2 =>
    intro n todo a w γ N hM ha hd hE hI b cs
    cases hM with
    | @c _ _ _ todo' hok hM =>
      obtain ⟨id, ops, rfl, hops, hdeps, hmix⟩ := okC_drw hok
      obtain ⟨d1, d2⟩ := hI.drew
      have hlen : deps.length = ops.size := by simpa using (deps_get hdeps).1
      have hsch : ∀ t, Region.schedule (P.follows .mixedOrders) ops t = lin deps t := fun t => by
        unfold Region.schedule
        rw [hmix]
        simpa using lin_eq hdeps t
      have hw := ih1 (w.tape w.drawn (.order b.fn id)) n ops (lin deps (w.tape w.drawn (.order b.fn id))) a w.drew γ N (fun ex a' w' => ex = .normal ∧ Leaves G N n γ σ w.drew (E2 (w.tape w.drawn (.order b.fn id))) σ1 a' w')
        (ML_pick hops _ (fun i hi => by rw [← hlen]; exact lin_lt deps _ _ [] (fun i hi => by cases hi) i hi)) ha hd (hE.ext d2) d1 (fun a' w' h => ⟨rfl, h⟩)
      obtain ⟨ex, a1, w1, ⟨rfl, γ1, q1, q2, q3, q4, q5, q6, q7⟩, harr⟩ := wp_ops _ a w.drew hw b todo' cs
      have q1' : RepE γ1 w1 e1 a1.tmps := fun m => by rw [← hE2 (w.tape w.drawn (.order b.fn id)) m]; exact q1 m
      obtain ⟨a', w', t', hs, hl⟩ := ih2 n _ a1 w1 γ1 N hM q6 q7 (q1'.del kill) q2 b cs
      have hstep := step_region_draw (P := P) (b := b) (a := a) (k := todo') (cs := cs) (w := w) (ops := ops) (id := id)
      rw [hsch] at hstep
      exact ⟨a', w', t', .head hstep (Steps.trans harr hs), (Leaves.after (σ := σ) (σ1 := σ) d2 (Below.refl _ _).drew (fun _ _ => rfl) (Leaves.after (σ := σ) q3 q4 q5 hl))⟩
  | cSeq _ ih =>
    intro n todo a w γ N hM ha hd hE hI b cs
    cases hM with
    | c hok hM =>
      obtain ⟨c1, c2, rfl, h1, h2⟩ := okC_seq hok
      obtain ⟨a', w', t', hs, hl⟩ := ih n _ a w γ N (.c h1 (.c h2 hM)) ha hd hE hI b cs
      exact ⟨a', w', t', .head step_seq hs, hl⟩
  | @cCond s kill x y k e e' σ σ' z hc _ ih =>
    intro n todo a w γ N hM ha hd hE hI b cs
    cases hM with
    | c hok hM =>
      obtain ⟨o, c1, c2, rfl, h1, h2, h3⟩ := okC_cond hok
      have hr := okS_rep (a := a) h1 hE hI
      rw [hc] at hr
      have hz := repC_bool (repV_cell rfl hr)
      obtain ⟨a', w', t', hs, hl⟩ := ih n _ a w γ N (.c (c := if z then c1 else c2) (by cases z <;> assumption) hM) ha hd (hE.del kill) hI b cs
      exact ⟨a', w', t', .head (step_cond hz) hs, hl⟩
  | cBlk _ ih =>
    intro n todo a w γ N hM ha hd hE hI b cs
    cases hM with
    | c hok hM =>
      obtain ⟨c1, rfl, h1⟩ := okC_blk hok
      obtain ⟨a', w', t', hs, hl⟩ := ih n _ a w γ N (.c h1 (.b hM)) ha hd hE hI b cs
      exact ⟨a', w', t', .head step_block hs, hl⟩
  | cEnd _ ih =>
    intro n todo a w γ N hM ha hd hE hI b cs
    cases hM with
    | b hM =>
      obtain ⟨a', w', t', hs, hl⟩ := ih n _ a w γ N hM ha hd hE hI b cs
      exact ⟨a', w', t', .head step_inBlock hs, hl⟩
  | cLoop _ ih =>
    intro n todo a w γ N hM ha hd hE hI b cs
    cases hM with
    | c hok hM =>
      obtain ⟨c1, rfl, h1⟩ := okC_loop hok
      exact ih n _ a w γ N (.l' h1 hM) ha hd hE hI b cs
  | @cAgain keep c k e e' σ σ' _ ih =>
    intro n todo a w γ N hM ha hd hE hI b cs
    cases hM with
    | l hok hM =>
      obtain ⟨a', w', t', hs, hl⟩ := ih n _ a w γ N (.c hok (.l hok hM)) ha hd (hE.keep keep) hI b cs
      exact ⟨a', w', t', .head step_inLoop hs, hl⟩
    | l' hok hM =>
      obtain ⟨a', w', t', hs, hl⟩ := ih n _ a w γ N (.c hok (.l hok hM)) ha hd (hE.keep keep) hI b cs
      exact ⟨a', w', t', .head step_loop hs, hl⟩
  | cExit hk _ ih =>
    intro n todo a w γ N hM ha hd hE hI b cs
    cases hM with
    | c hok hM =>
      obtain rfl := okC_exit hok
      obtain ⟨todo', h1, h2⟩ := hM.exit hk
      obtain ⟨a', w', t', hs, hl⟩ := ih n _ a w γ N h2 ha hd hE hI b cs
      exact ⟨a', w', t', .head (step_exit h1) hs, hl⟩
  | cRet =>
    intro n todo a w γ N hM ha hd hE hI b cs
    cases hM with
    | c hok hM =>
      obtain rfl := okC_ret hok
      exact ⟨a, w, _, .one step_ret, γ, hE, hI, Ext.refl _ _, Below.refl _ _, fun _ _ => rfl, ha, hd⟩
end Go.Proofs.YticpkkjnajmpoaaGreatDoor.KM
