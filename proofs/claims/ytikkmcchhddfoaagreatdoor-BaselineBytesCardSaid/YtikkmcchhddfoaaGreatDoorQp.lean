/- Code that may panic: what comes of it, that it is right, walking by rewriting. -/
import Derived.Test.YtikkmcchhddfoaaGreatDoorA5
set_option linter.all false
namespace Go.Proofs.YtikkmcchhddfoaaGreatDoor.KM
open Go Go.RowKit
inductive Out where
  | ok (e : Env) (σ : St)
  | pan (e : Env) (σ : St)
inductive JX where
  | ops (l : List AI) (e : Env) (σ : St) (r : Out)
  | code (k : List It) (e : Env) (σ : St) (r : Out)
  | fnP (f : Nat) (args : List V) (σ σ' : St)
/-- what comes of code in which calls may panic; pan: functions without arguments that are known to panic and turn nothing -/
inductive EvX (T : Nat → Option AF) (pr : Nat → Option (List V → Option V)) (pan : Nat → Bool) : JX → Prop
  | opsNil {e : Env} {σ : St} : EvX T pr pan (.ops [] e σ (.ok e σ))
  | opsStep {i : AI} {l : List AI} {e : Env} {σ σ1 : St} {v : V} {r : Out} : Sg T pr i e σ v σ1 → EvX T pr pan (.ops l (e.putO i.dst v) σ1 r) → EvX T pr pan (.ops (i :: l) e σ r)
  | opsPan {i : AI} {l : List AI} {e : Env} {σ σ' : St} {f : Nat} {args : List V} : wantedB e i = some true → calleeOf e i.op = some (f, args) → EvX T pr pan (.fnP f args σ σ') → EvX T pr pan (.ops (i :: l) e σ (.pan e σ'))
  | panF {f : Nat} {σ : St} : pan f = true → EvX T pr pan (.fnP f [] σ σ)
  | fnP {f : Nat} {args : List V} {σ σ' : St} {e' : Env} {F : AF} : T f = some F → F.spec = none → args.length = F.pars → EvX T pr pan (.code [.c F.body] (parEnv 0 args) σ (.pan e' σ')) → EvX T pr pan (.fnP f args σ σ')
  | cNil {e : Env} {σ : St} : EvX T pr pan (.code [] e σ (.ok e σ))
  | cSkip {k : List It} {e : Env} {σ : St} {r : Out} : EvX T pr pan (.code k e σ r) → EvX T pr pan (.code (.c .skip :: k) e σ r)
  | cReg {kill : List Nat} {ops : List AI} {k : List It} {e e1 : Env} {σ σ1 : St} {r : Out} : EvX T pr pan (.ops ops e σ (.ok e1 σ1)) → EvX T pr pan (.code k (e1.del kill) σ1 r) → EvX T pr pan (.code (.c (.reg kill ops) :: k) e σ r)
  | cRegP {kill : List Nat} {ops : List AI} {k : List It} {e e1 : Env} {σ σ1 : St} : EvX T pr pan (.ops ops e σ (.pan e1 σ1)) → EvX T pr pan (.code (.c (.reg kill ops) :: k) e σ (.pan e1 σ1))
  | cDrw {kill : List Nat} {deps : List (List Nat)} {ops : List AI} {k : List It} {e e1 : Env} {σ σ1 : St} {r : Out} (E2 : Nat → Env) : (∀ t, Ev T pr (.ops (pickAI ops (lin deps t)) e σ (E2 t) σ1)) → (∀ t n, (E2 t).get n = e1.get n) → EvX T pr pan (.code k (e1.del kill) σ1 r) → EvX T pr pan (.code (.c (.drw kill deps ops) :: k) e σ r)
  | cSeq {a b : AC} {k : List It} {e : Env} {σ : St} {r : Out} : EvX T pr pan (.code (.c a :: .c b :: k) e σ r) → EvX T pr pan (.code (.c (.seq a b) :: k) e σ r)
  | cCond {c : S} {kill : List Nat} {x y : AC} {k : List It} {e : Env} {σ : St} {r : Out} {z : Bool} : src e c = .bool z → EvX T pr pan (.code (.c (if z then x else y) :: k) (e.del kill) σ r) → EvX T pr pan (.code (.c (.cond c kill x y) :: k) e σ r)
  | cBlk {id : Nat} {c : AC} {k : List It} {e : Env} {σ : St} {r : Out} : EvX T pr pan (.code (.c c :: .b id :: k) e σ r) → EvX T pr pan (.code (.c (.blk id c) :: k) e σ r)
  | cEnd {id : Nat} {k : List It} {e : Env} {σ : St} {r : Out} : EvX T pr pan (.code k e σ r) → EvX T pr pan (.code (.b id :: k) e σ r)
  | cLoop {keep : List Nat} {c : AC} {k : List It} {e : Env} {σ : St} {r : Out} : EvX T pr pan (.code (.l keep c :: k) e σ r) → EvX T pr pan (.code (.c (.loop keep c) :: k) e σ r)
  | cAgain {keep : List Nat} {c : AC} {k : List It} {e : Env} {σ : St} {r : Out} : EvX T pr pan (.code (.c c :: .l keep c :: k) (e.keep keep) σ r) → EvX T pr pan (.code (.l keep c :: k) e σ r)
  | cExit {id : Nat} {k k' : List It} {e : Env} {σ : St} {r : Out} : exitTo id k = some k' → EvX T pr pan (.code k' e σ r) → EvX T pr pan (.code (.c (.exit id) :: k) e σ r)
  | cRet {k : List It} {e : Env} {σ : St} : EvX T pr pan (.code (.c .ret :: k) e σ (.ok e σ))
/-! it is right -/
section
variable {P : Program} {G : List (Nat × List V)} {T : Nat → Option AF} {pr : Nat → Option (List V → Option V)} {pan : Nat → Bool}
def PCh (ch : List PanicEntry) : Prop := ∃ t x, ch = [{ v := .iface t x, recovered := false }]
def PanOk (P : Program) (f : Nat) : Prop := (∃ fn c, P.funcs[f]? = some fn ∧ fn.body = some c ∧ fn.name ≠ "runtime.NumGoroutine") ∧ ∀ w : World, Calls P f #[] w fun e w' => ∃ t x, e = .panicked [{ v := .iface t x, recovered := false }] ∧ w' = w
def ShownX (P : Program) (G : List (Nat × List V)) : JX → Prop
  | .ops l e σ r => ∀ (n : Nat) (D : List Deferred) (ops : Array Oper) (L : List Nat) (a : Act) (w : World) (γ : Gh) (N : Nat) (Q : Exit → Act → World → Prop), ML P G n ops l L → a.tmps.size = n → a.defers = D → RepE γ w e a.tmps → Inv G N γ σ w →
      (match r with
        | .ok e' σ' => ∀ a' w', Leaves G N n D γ σ w e' σ' a' w' → Q .normal a' w'
        | .pan e' σ' => ∀ ch a' w', PCh ch → Leaves G N n D γ σ w e' σ' a' w' → Q (.panic ch) a' w') → wpOps P ops Q L a w
  | .code k e σ r => ∀ (n : Nat) (D : List Deferred) (todo : List Item) (a : Act) (w : World) (γ : Gh) (N : Nat), MK P G n k todo → a.tmps.size = n → a.defers = D → RepE γ w e a.tmps → Inv G N γ σ w → ∀ (b : Frame) (cs : List Frame),
      match r with
      | .ok e' σ' => ∃ a' w' todo', Steps P (lone (b.at a todo) cs w) (lone { b.at a' todo' with mode := .returning } cs w') ∧ Leaves G N n D γ σ w e' σ' a' w'
      | .pan e' σ' => ∃ ch a' w' todo', PCh ch ∧ Steps P (lone (b.at a todo) cs w) (lone { b.at a' todo' with mode := .panicking ch } cs w') ∧ Leaves G N n D γ σ w e' σ' a' w'
  | .fnP f args σ σ' => ∀ (us : List Value) (w : World) (γ : Gh) (N : Nat), args.length = us.length → (∀ j, j < args.length → RepV γ w (args.getD j .und) (us.getD j undef)) → Inv G N γ σ w →
      Calls P f us.toArray w fun e w' => ∃ ch γ', e = .panicked ch ∧ PCh ch ∧ Inv G N γ' σ' w' ∧ Ext γ w γ' w' ∧ Below N w w' ∧ ∀ b, b < N → γ'.κ b = γ.κ b
/-- one operation, then the others -/
def thenQ (P : Program) (ops : Array Oper) (Q : Exit → Act → World → Prop) (js : List Nat) : Exit → Act → World → Prop
  | .normal, a, w => wpOps P ops Q js a w
  | e, a, w => Q e a w
theorem wp_cons {ops : Array Oper} {Q : Exit → Act → World → Prop} {j : Nat} {js : List Nat} {a : Act} {w : World} (h : wpOps P ops (thenQ P ops Q js) [j] a w) : wpOps P ops Q (j :: js) a w := by
  simp only [wpOps] at h ⊢
  split at h
  · exact h
  · split at h
    · rename_i o ho hw
      rw [if_pos hw]
      rcases h with h | ⟨h1, a1, w1, h2⟩
      · refine .inl ?_
        unfold Oper.wp at h ⊢
        generalize (execOp a.eval o).run P w = r at h ⊢
        unfold Oper.upon at h ⊢
        split at h
        · exact h
        · exact h
        · exact h
        · refine Calls.mono h ?_
          rintro e w' hq
          cases e with
          | returned v => exact hq
          | panicked ch => exact hq
          | outgrown => obtain ⟨a1, w1, hq⟩ := hq; exact ⟨a1, w1, hq⟩
        · exact h
        · exact h
        · exact h
      · exact .inr ⟨h1, a1, w1, h2⟩
    · rename_i o ho hw
      rw [if_neg hw]
      exact h
def Out.after (G : List (Nat × List V)) (N n : Nat) (D : List Deferred) (γ : Gh) (σ : St) (w : World) (b : Frame) (cs : List Frame) (m : Machine) (P : Program) : Out → Prop
  | .ok e' σ' => ∃ a' w' todo', Steps P m (lone { b.at a' todo' with mode := .returning } cs w') ∧ Leaves G N n D γ σ w e' σ' a' w'
  | .pan e' σ' => ∃ ch a' w' todo', PCh ch ∧ Steps P m (lone { b.at a' todo' with mode := .panicking ch } cs w') ∧ Leaves G N n D γ σ w e' σ' a' w'
theorem out_after {N n : Nat} {D : List Deferred} {γ γ1 : Gh} {σ σ1 : St} {w w1 : World} {b : Frame} {cs : List Frame} {m m1 : Machine} (hs : Steps P m m1) (hx : Ext γ w γ1 w1) (hb : Below N w w1) (hk : ∀ b, b < N → γ1.κ b = γ.κ b) : ∀ {r : Out}, Out.after G N n D γ1 σ1 w1 b cs m1 P r → Out.after G N n D γ σ w b cs m P r
  | .ok _ _, ⟨a', w', t', h1, h2⟩ => ⟨a', w', t', Steps.trans hs h1, h2.after hx hb hk⟩
  | .pan _ _, ⟨ch, a', w', t', h0, h1, h2⟩ => ⟨ch, a', w', t', h0, Steps.trans hs h1, h2.after hx hb hk⟩
theorem shownX_code {k : List It} {e : Env} {σ : St} {r : Out} : ShownX P G (.code k e σ r) ↔ ∀ (n : Nat) (D : List Deferred) (todo : List Item) (a : Act) (w : World) (γ : Gh) (N : Nat), MK P G n k todo → a.tmps.size = n → a.defers = D → RepE γ w e a.tmps → Inv G N γ σ w → ∀ (b : Frame) (cs : List Frame), Out.after G N n D γ σ w b cs (lone (b.at a todo) cs w) P r := by
  cases r <;> exact Iff.rfl
theorem soundX (hT : ∀ f F, T f = some F → F.spec = none → okF P G f F = true) (hS : ∀ f F s, T f = some F → F.spec = some s → ThrOk P G f s) (hpr : ∀ f s, pr f = some s → PrimOk P G f s) (hpan : ∀ f, pan f = true → PanOk P f) {j : JX} (h : EvX T pr pan j) : ShownX P G j := by
  induction h with
  | opsNil =>
    intro n D ops L a w γ N Q hM ha hd hE hI hQ
    cases L with
    | nil => exact hQ a w ⟨γ, hE, hI, Ext.refl _ _, Below.refl _ _, fun _ _ => rfl, ha, hd⟩
    | cons => exact hM.elim
  | @opsStep i l e σ σ1 v r hs _ ih =>
    intro n D ops L a w γ N Q hM ha hd hE hI hQ
    obtain ⟨j, js, o, rfl, ho, hok, hM'⟩ := hM.tail
    have h1 := sound hT hS hpr (hs.ev (Ev.opsNil (T := T) (pr := pr))) n D ops [j] a w γ N (thenQ P ops Q js) ⟨⟨o, ho, hok⟩, trivial⟩ ha hd hE hI
    refine wp_cons (h1 fun a' w' hl => ?_)
    obtain ⟨γ1, q1, q2, q3, q4, q5, q6, q7⟩ := hl
    refine ih n D ops js a' w' γ1 N Q hM' q6 q7 q1 q2 ?_
    cases r with
    | ok e' σ' => exact fun a2 w2 hl => hQ a2 w2 (hl.after q3 q4 q5)
    | pan e' σ' => exact fun ch a2 w2 hc hl => hQ ch a2 w2 hc (hl.after q3 q4 q5)
  | @opsPan i l e σ σ' f args hw hc hp ih =>
    intro n D ops L a w γ N Q hM ha hd hE hI hQ
    obtain ⟨j, js, o, rfl, ho, hok, hM'⟩ := hM.tail
    obtain ⟨k1, k2, k3, k4⟩ := okAI_split hok
    refine wp_on (n := n) ho (wanted_eq k3 ha hE hw) ?_
    obtain ⟨fn, c, hf, hb, hn⟩ : ∃ fn c, P.funcs[f]? = some fn ∧ fn.body = some c ∧ fn.name ≠ "runtime.NumGoroutine" := by
      cases hp with
      | panF h => exact (hpan _ h).1
      | fnP hF hsp _ _ => obtain ⟨fn, c, hf, hb, _, _, _, hn⟩ := okF_some (hT _ _ hF hsp); exact ⟨fn, c, hf, hb, hn⟩
    obtain ⟨us, hrun, hul, hur⟩ := call_enter (ops := ops) (n := n) k4 hc hE hI hf hb hn
    unfold Oper.wp
    rw [hrun]
    refine (ih us w γ N hul hur hI).mono ?_
    rintro _ w1 ⟨ch, γ1, rfl, hch, q2, q3, q4, q5⟩
    exact hQ ch a w1 hch ⟨γ1, hE.ext q3, q2, q3, q4, q5, ha, hd⟩
  | @panF f σ hf =>
    intro us w γ N hlen hrep hI
    obtain rfl : us = [] := List.length_eq_zero_iff.1 (by simpa using hlen.symm)
    refine ((hpan _ hf).2 w).mono ?_
    rintro _ w1 ⟨t, x, rfl, rfl⟩
    exact ⟨_, γ, rfl, ⟨t, x, rfl⟩, hI, Ext.refl _ _, Below.refl _ _, fun _ _ => rfl⟩
  | @fnP f args σ σ' e' F hF hsp hl _ ih =>
    intro us w γ N hlen hrep hI
    obtain ⟨fn, c, hf, hb, hC, hR, hpars, hn⟩ := okF_some (hT f F hF hsp)
    intro cs
    let b : Frame := { (default : Frame) with fn := f, kind := .normal }
    have hsz : (us.toArray ++ Array.replicate (fn.ntmps - us.toArray.size) undef).size = fn.ntmps := by simp; omega
    have henter : Frame.enter P f us.toArray .normal = b.at { tmps := us.toArray ++ Array.replicate (fn.ntmps - us.toArray.size) undef, defers := [] } [.code c] := by
      simp [Frame.enter, Frame.at, hf, hb, b]
    have hE0 : RepE γ w (parEnv 0 args) (us.toArray ++ Array.replicate (fn.ntmps - us.toArray.size) undef) := fun m => by
      rw [parEnv_get, if_pos (Nat.zero_le _), Nat.sub_zero]
      by_cases hm : m < args.length
      · have := hrep m hm
        have e1 : (us.toArray ++ Array.replicate (fn.ntmps - us.toArray.size) undef).getD m undef = us.getD m undef := by
          rw [Array.getD_eq_getD_getElem?, Array.getElem?_append_left (by simp; omega), List.getElem?_toArray, List.getD_eq_getElem?_getD]
        rw [e1]
        exact this
      · rw [show args.getD m .und = .und by rw [List.getD_eq_getElem?_getD, List.getElem?_eq_none (by omega)]; rfl]
        exact .und
    obtain ⟨ch, a', w', todo', hch, hs, γ', g1, g2, g3, g4, g5, g6, g7⟩ := ih fn.ntmps [] [.code c] { tmps := us.toArray ++ Array.replicate (fn.ntmps - us.toArray.size) undef, defers := [] } w γ N (.c hC .nil) hsz rfl hE0 hI b cs
    rw [← henter] at hs
    exact ⟨.panicked ch, w', _, ⟨ch, γ', rfl, hch, g2, g3, g4, g5⟩, hs, rfl, rfl, g7, fn, hf⟩
  | cNil =>
    intro n D todo a w γ N hM ha hd hE hI b cs
    cases hM
    exact ⟨a, w, [], .one step_end, γ, hE, hI, Ext.refl _ _, Below.refl _ _, fun _ _ => rfl, ha, hd⟩
  | @cSkip k e σ r _ ih =>
    rw [shownX_code] at ih ⊢
    intro n D todo a w γ N hM ha hd hE hI b cs
    cases hM with
    | c hok hM =>
      obtain rfl := okC_skip hok
      exact out_after (.one step_skip) (Ext.refl _ _) (Below.refl _ _) (fun _ _ => rfl) (ih n D _ a w γ N hM ha hd hE hI b cs)
  | @cReg kill ais k e e1 σ σ1 r _ _ ih1 ih2 =>
    rw [shownX_code] at ih2 ⊢
    intro n D todo a w γ N hM ha hd hE hI b cs
    cases hM with
    | @c _ _ _ todo' hok hM =>
      obtain ⟨id, ops, rfl, hops⟩ := okC_reg hok
      have hw := ih1 n D ops (List.range ops.size) a w γ N (fun ex a' w' => ex = .normal ∧ Leaves G N n D γ σ w e1 σ1 a' w') (by
        have := ML_range ais ops.toList 0 hops (by simp)
        rw [List.range_eq_range']
        simpa using this) ha hd hE hI (fun a' w' h => ⟨rfl, h⟩)
      obtain ⟨ex, a1, w1, ⟨rfl, γ1, q1, q2, q3, q4, q5, q6, q7⟩, harr⟩ := wp_ops _ a w hw b todo' cs
      exact out_after (.head step_region harr) q3 q4 q5 (ih2 n D _ a1 w1 γ1 N hM q6 q7 (q1.del kill) q2 b cs)
  | @cRegP kill ais k e e1 σ σ1 _ ih1 =>
    intro n D todo a w γ N hM ha hd hE hI b cs
    cases hM with
    | @c _ _ _ todo' hok hM =>
      obtain ⟨id, ops, rfl, hops⟩ := okC_reg hok
      have hw := ih1 n D ops (List.range ops.size) a w γ N (fun ex a' w' => ∃ ch, ex = .panic ch ∧ PCh ch ∧ Leaves G N n D γ σ w e1 σ1 a' w') (by
        have := ML_range ais ops.toList 0 hops (by simp)
        rw [List.range_eq_range']
        simpa using this) ha hd hE hI (fun ch a' w' hc h => ⟨ch, rfl, hc, h⟩)
      obtain ⟨ex, a1, w1, ⟨ch, rfl, hch, hl⟩, todo2, harr⟩ := wp_ops _ a w hw b todo' cs
      exact ⟨ch, a1, w1, todo2, hch, .head step_region harr, hl⟩
  | @cDrw kill deps ais k e e1 σ σ1 r E2 hE1 hE2 _ ih2 =>
    rw [shownX_code] at ih2 ⊢
    intro n D todo a w γ N hM ha hd hE hI b cs
    cases hM with
    | @c _ _ _ todo' hok hM =>
      obtain ⟨id, ops, rfl, hops, hdeps, hmix⟩ := okC_drw hok
      obtain ⟨d1, d2⟩ := hI.drew
      have hlen : deps.length = ops.size := by simpa using (deps_get hdeps).1
      have hsch : ∀ t, Region.schedule (P.follows .mixedOrders) ops t = lin deps t := fun t => by
        unfold Region.schedule
        rw [hmix]
        simpa using lin_eq hdeps t
      have hw := sound hT hS hpr (hE1 (w.tape w.drawn (.order b.fn id))) n D ops (lin deps (w.tape w.drawn (.order b.fn id))) a w.drew γ N (fun ex a' w' => ex = .normal ∧ Leaves G N n D γ σ w.drew (E2 (w.tape w.drawn (.order b.fn id))) σ1 a' w')
        (ML_pick hops _ (fun i hi => by rw [← hlen]; exact lin_lt deps _ _ [] (fun i hi => by cases hi) i hi)) ha hd (hE.ext d2) d1 (fun a' w' h => ⟨rfl, h⟩)
      obtain ⟨ex, a1, w1, ⟨rfl, γ1, q1, q2, q3, q4, q5, q6, q7⟩, harr⟩ := wp_ops _ a w.drew hw b todo' cs
      have q1' : RepE γ1 w1 e1 a1.tmps := fun m => by rw [← hE2 (w.tape w.drawn (.order b.fn id)) m]; exact q1 m
      have hstep := step_region_draw (P := P) (b := b) (a := a) (k := todo') (cs := cs) (w := w) (ops := ops) (id := id)
      rw [hsch] at hstep
      exact out_after (σ1 := σ) (.one hstep) d2 (Below.refl _ _).drew (fun _ _ => rfl) (out_after harr q3 q4 q5 (ih2 n D _ a1 w1 γ1 N hM q6 q7 (q1'.del kill) q2 b cs))
  | cSeq _ ih =>
    rw [shownX_code] at ih ⊢
    intro n D todo a w γ N hM ha hd hE hI b cs
    cases hM with
    | c hok hM =>
      obtain ⟨c1, c2, rfl, h1, h2⟩ := okC_seq hok
      exact out_after (.one step_seq) (Ext.refl _ _) (Below.refl _ _) (fun _ _ => rfl) (ih n D _ a w γ N (.c h1 (.c h2 hM)) ha hd hE hI b cs)
  | @cCond s kill x y k e σ r z hc _ ih =>
    rw [shownX_code] at ih ⊢
    intro n D todo a w γ N hM ha hd hE hI b cs
    cases hM with
    | c hok hM =>
      obtain ⟨o, c1, c2, rfl, h1, h2, h3⟩ := okC_cond hok
      have hr := okS_rep (a := a) h1 hE hI
      rw [hc] at hr
      have hz := repC_bool (repV_cell rfl hr)
      exact out_after (.one (step_cond hz)) (Ext.refl _ _) (Below.refl _ _) (fun _ _ => rfl) (ih n D _ a w γ N (.c (c := if z then c1 else c2) (by cases z <;> assumption) hM) ha hd (hE.del kill) hI b cs)
  | cBlk _ ih =>
    rw [shownX_code] at ih ⊢
    intro n D todo a w γ N hM ha hd hE hI b cs
    cases hM with
    | c hok hM =>
      obtain ⟨c1, rfl, h1⟩ := okC_blk hok
      exact out_after (.one step_block) (Ext.refl _ _) (Below.refl _ _) (fun _ _ => rfl) (ih n D _ a w γ N (.c h1 (.b hM)) ha hd hE hI b cs)
  | cEnd _ ih =>
    rw [shownX_code] at ih ⊢
    intro n D todo a w γ N hM ha hd hE hI b cs
    cases hM with
    | b hM => exact out_after (.one step_inBlock) (Ext.refl _ _) (Below.refl _ _) (fun _ _ => rfl) (ih n D _ a w γ N hM ha hd hE hI b cs)
  | cLoop _ ih =>
    rw [shownX_code] at ih ⊢
    intro n D todo a w γ N hM ha hd hE hI b cs
    cases hM with
    | c hok hM =>
      obtain ⟨c1, rfl, h1⟩ := okC_loop hok
      exact ih n D _ a w γ N (.l' h1 hM) ha hd hE hI b cs
  | @cAgain keep c k e σ r _ ih =>
    rw [shownX_code] at ih ⊢
    intro n D todo a w γ N hM ha hd hE hI b cs
    cases hM with
    | l hok hM => exact out_after (.one step_inLoop) (Ext.refl _ _) (Below.refl _ _) (fun _ _ => rfl) (ih n D _ a w γ N (.c hok (.l hok hM)) ha hd (hE.keep keep) hI b cs)
    | l' hok hM => exact out_after (.one step_loop) (Ext.refl _ _) (Below.refl _ _) (fun _ _ => rfl) (ih n D _ a w γ N (.c hok (.l hok hM)) ha hd (hE.keep keep) hI b cs)
  | cExit hk _ ih =>
    rw [shownX_code] at ih ⊢
    intro n D todo a w γ N hM ha hd hE hI b cs
    cases hM with
    | c hok hM =>
      obtain rfl := okC_exit hok
      obtain ⟨t2, h1, h2⟩ := hM.exit hk
      exact out_after (.one (step_exit h1)) (Ext.refl _ _) (Below.refl _ _) (fun _ _ => rfl) (ih n D _ a w γ N h2 ha hd hE hI b cs)
  | cRet =>
    intro n D todo a w γ N hM ha hd hE hI b cs
    cases hM with
    | c hok hM =>
      obtain rfl := okC_ret hok
      exact ⟨a, w, _, .one step_ret, γ, hE, hI, Ext.refl _ _, Below.refl _ _, fun _ _ => rfl, ha, hd⟩
end
end Go.Proofs.YtikkmcchhddfoaaGreatDoor.KM
