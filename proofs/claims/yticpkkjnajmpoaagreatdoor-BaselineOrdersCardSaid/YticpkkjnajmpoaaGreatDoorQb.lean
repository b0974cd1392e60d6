/- Walking by rewriting: code. -/
import Derived.Test.YticpkkjnajmpoaaGreatDoorQa
set_option linter.all false
namespace Go.Proofs.YticpkkjnajmpoaaGreatDoor.KM
open Go
variable {T : Nat → Option AF} {pr : Nat → Option (List V → Option V)}
def o (d : Nat) (op : AO) : AI := ⟨some d, op, none⟩
def on (op : AO) : AI := ⟨none, op, none⟩
def og (d : Nat) (op : AO) (t : Nat) (w : Bool) : AI := ⟨some d, op, some (t, w)⟩
def oh (op : AO) (t : Nat) (w : Bool) : AI := ⟨none, op, some (t, w)⟩

/-- a call -/
inductive CallS (T : Nat → Option AF) (pr : Nat → Option (List V → Option V)) (f : Nat) (args : List V) (σ : St) : V → St → Prop
  | prim {s : List V → Option V} {vs : List V} {v : V} : pr f = some s → over σ args = some vs → s vs = some v → CallS T pr f args σ v (after σ args v)
  | pure {vs : List V} {v : V} : over σ args = some vs → Fn T pr f vs v → CallS T pr f args σ v (after σ args v)
  | thr {v : V} {σ1 : St} : Th T pr f args σ v σ1 → CallS T pr f args σ v σ1
  | spec {F : AF} {s : List V → St → Option (V × St)} {v : V} {σ1 : St} : T f = some F → F.thr = true → F.spec = some s → s args σ = some (v, σ1) → CallS T pr f args σ v σ1
theorem CallS.sg {i : AI} {f : Nat} {args : List V} {e : Env} {σ σ1 : St} {v : V} (h : CallS T pr f args σ v σ1) (hw : wantedB e i = some true) (hc : calleeOf e i.op = some (f, args)) : Sg T pr i e σ v σ1 := by
  cases h with
  | prim h1 h2 h3 => exact .prim hw hc h1 h2 h3
  | pure h1 h2 => exact .pure hw hc h1 h2
  | thr h => obtain ⟨F, h1, h2, h3, h4⟩ := h; exact .thr hw hc h1 h2 h3 h4
  | spec h1 h2 h3 h4 => exact .spec hw hc h1 h2 h3 h4

def WE (T : Nat → Option AF) (pr : Nat → Option (List V → Option V)) (e : Env) (k : List It) (σ : St) (Q : Env → St → Prop) : Prop := W T pr k e σ Q
def WR (T : Nat → Option AF) (pr : Nat → Option (List V → Option V)) (l : List AI) (kill : List Nat) (k : List It) (e : Env) (σ : St) (Q : Env → St → Prop) : Prop := WO T pr l e σ fun e1 σ1 => W T pr k (e1.del kill) σ1 Q
def WX (T : Nat → Option AF) (pr : Nat → Option (List V → Option V)) (r : Rs) (d : Option Nat) (l : List AI) (kill : List Nat) (k : List It) (e : Env) (σ : St) (Q : Env → St → Prop) : Prop :=
  match r with
  | .val v σ1 => WR T pr l kill k (e.putO d v) σ1 Q
  | .call f args => ∃ v σ1, CallS T pr f args σ v σ1 ∧ WR T pr l kill k (e.putO d v) σ1 Q
  | .fail => False
def WD (T : Nat → Option AF) (pr : Nat → Option (List V → Option V)) (g : V) (w : Bool) (d : Option Nat) (op : AO) (l : List AI) (kill : List Nat) (k : List It) (e : Env) (σ : St) (Q : Env → St → Prop) : Prop :=
  match g with
  | .bool b => if b = w then WX T pr (evalX op e σ) d l kill k e σ Q else WR T pr l kill k (e.putO d .skp) σ Q
  | .skp => WR T pr l kill k (e.putO d .skp) σ Q
  | _ => False
def WC (T : Nat → Option AF) (pr : Nat → Option (List V → Option V)) (g : V) (kill : List Nat) (x y : AC) (k : List It) (e : Env) (σ : St) (Q : Env → St → Prop) : Prop :=
  match g with
  | .bool true => WE T pr (e.del kill) (.c x :: k) σ Q
  | .bool false => WE T pr (e.del kill) (.c y :: k) σ Q
  | _ => False
def WJ (T : Nat → Option AF) (pr : Nat → Option (List V → Option V)) (id : Nat) : List It → Env → St → (Env → St → Prop) → Prop
  | [], _, _, _ => False
  | .b i :: k, e, σ, Q => if i = id then W T pr k e σ Q else WJ T pr id k e σ Q
  | .c _ :: k, e, σ, Q => WJ T pr id k e σ Q
  | .l _ _ :: k, e, σ, Q => WJ T pr id k e σ Q
theorem get_keep (e : Env) (n : Nat) : ∀ ks : List Nat, ks.elem n = true → (e.keep ks).get n = e.get n
  | [], h => by cases h
  | m :: ks, h => by
    simp only [Env.keep, Env.get]
    split
    · rename_i h; rw [h]
    · rename_i hm
      refine get_keep e n ks ?_
      simp only [List.elem_eq_mem, List.mem_cons, decide_eq_true_eq] at h ⊢
      exact h.resolve_left fun h => hm h.symm
theorem keep_sub (e : Env) (ks : List Nat) : ∀ js : List Nat, (∀ n, js.elem n = true → ks.elem n = true) → (e.keep ks).keep js = e.keep js
  | [], _ => rfl
  | m :: js, h => by
    simp only [Env.keep]
    rw [get_keep e m ks (h m (by simp)), keep_sub e ks js fun n hn => h n (by simp at hn ⊢; exact .inr hn)]
theorem keep_keep (e : Env) (ks : List Nat) : e.keep ks = (e.keep ks).keep ks := (keep_sub e ks ks fun _ h => h).symm
section
variable {Q : Env → St → Prop} {e : Env} {σ : St} {k : List It} {l : List AI} {kill : List Nat}
theorem w_seq (a b : AC) : W T pr (.c (.seq a b) :: k) e σ Q = W T pr (.c a :: .c b :: k) e σ Q := propext ⟨fun ⟨e', σ', h, q⟩ => by cases h with | cSeq h => exact ⟨e', σ', h, q⟩, W_seq⟩
theorem w_skip : W T pr (.c .skip :: k) e σ Q = W T pr k e σ Q := propext ⟨fun ⟨e', σ', h, q⟩ => by cases h with | cSkip h => exact ⟨e', σ', h, q⟩, W_skip⟩
theorem w_blk (id : Nat) (c : AC) : W T pr (.c (.blk id c) :: k) e σ Q = W T pr (.c c :: .b id :: k) e σ Q := propext ⟨fun ⟨e', σ', h, q⟩ => by cases h with | cBlk h => exact ⟨e', σ', h, q⟩, W_blk⟩
theorem w_end (id : Nat) : W T pr (.b id :: k) e σ Q = W T pr k e σ Q := propext ⟨fun ⟨e', σ', h, q⟩ => by cases h with | cEnd h => exact ⟨e', σ', h, q⟩, W_end⟩
theorem w_loop (keep : List Nat) (c : AC) : W T pr (.c (.loop keep c) :: k) e σ Q = WE T pr (e.keep keep) (.l keep c :: k) σ Q := by
  refine propext ⟨fun ⟨e', σ', h, q⟩ => ?_, fun h => W_loop (W_keep h ?_)⟩
  · cases h with
    | cLoop h => exact W_keep ⟨e', σ', h, q⟩ (keep_keep e keep).symm
  · exact (keep_keep e keep)
theorem w_again (keep : List Nat) (c : AC) : W T pr (.l keep c :: k) e σ Q = WE T pr (e.keep keep) (.c c :: .l keep c :: k) σ Q := propext ⟨fun ⟨e', σ', h, q⟩ => by cases h with | cAgain h => exact ⟨e', σ', h, q⟩, W_again⟩
theorem w_ret : W T pr (.c .ret :: k) e σ Q = Q e σ := propext ⟨fun ⟨e', σ', h, q⟩ => by cases h with | cRet => exact q, W_ret⟩
theorem w_nil : W T pr [] e σ Q = Q e σ := propext ⟨fun ⟨e', σ', h, q⟩ => by cases h with | cNil => exact q, W_nil⟩
theorem w_reg (ops : List AI) : W T pr (.c (.reg kill ops) :: k) e σ Q = WR T pr ops kill k e σ Q := propext ⟨fun ⟨e', σ', h, q⟩ => by cases h with | cReg h h2 => exact ⟨_, _, h, e', σ', h2, q⟩, fun ⟨_, _, h, e', σ', h2, q⟩ => ⟨e', σ', .cReg h h2, q⟩⟩
theorem w_cond (c : S) (x y : AC) : W T pr (.c (.cond c kill x y) :: k) e σ Q = WC T pr (src e c) kill x y k e σ Q := by
  refine propext ⟨fun ⟨e', σ', h, q⟩ => ?_, fun h => ?_⟩
  · cases h with
    | cCond hc h =>
      rw [hc]
      rename_i z
      cases z
      · exact ⟨e', σ', h, q⟩
      · exact ⟨e', σ', h, q⟩
  · unfold WC at h
    split at h
    · rename_i hc; exact W_cond_t hc h
    · rename_i hc; exact W_cond_f hc h
    · exact h.elim
theorem wj_ok (id : Nat) : ∀ k' : List It, WJ T pr id k' e σ Q ↔ ∃ k2, exitTo id k' = some k2 ∧ W T pr k2 e σ Q
  | [] => by simp [WJ, exitTo]
  | .b i :: k' => by
    simp only [WJ, exitTo]
    split
    · simp
    · exact wj_ok id k'
  | .c _ :: k' => by simp only [WJ, exitTo]; exact wj_ok id k'
  | .l _ _ :: k' => by simp only [WJ, exitTo]; exact wj_ok id k'
theorem w_exit (id : Nat) : W T pr (.c (.exit id) :: k) e σ Q = WJ T pr id k e σ Q := propext ⟨fun ⟨e', σ', h, q⟩ => by cases h with | cExit hk h => exact (wj_ok id k).2 ⟨_, hk, e', σ', h, q⟩, fun h => let ⟨_, h1, h2⟩ := (wj_ok id k).1 h; W_exit h1 h2⟩
theorem wj_b (id i : Nat) : WJ T pr id (.b i :: k) e σ Q = if i = id then W T pr k e σ Q else WJ T pr id k e σ Q := hide rfl
theorem wj_c (id : Nat) (c : AC) : WJ T pr id (.c c :: k) e σ Q = WJ T pr id k e σ Q := hide rfl
theorem wj_l (id : Nat) (kp : List Nat) (c : AC) : WJ T pr id (.l kp c :: k) e σ Q = WJ T pr id k e σ Q := hide rfl
theorem we : WE T pr e k σ Q = W T pr k e σ Q := hide rfl
theorem wr_nil : WR T pr [] kill k e σ Q = WE T pr (e.del kill) k σ Q := propext ⟨fun ⟨_, _, h, q⟩ => by cases h with | opsNil => exact q, fun h => ⟨_, _, .opsNil, h⟩⟩
theorem wx_val (v : V) (σ1 : St) (d : Option Nat) : WX T pr (.val v σ1) d l kill k e σ Q = WR T pr l kill k (e.putO d v) σ1 Q := hide rfl
theorem wx_fail (d : Option Nat) : WX T pr .fail d l kill k e σ Q = False := hide rfl
theorem wx_call {f : Nat} {args : List V} {d : Option Nat} {v : V} {σ1 : St} (hc : CallS T pr f args σ v σ1) (h : WR T pr l kill k (e.putO d v) σ1 Q) : WX T pr (.call f args) d l kill k e σ Q := ⟨v, σ1, hc, h⟩
theorem callee_none {op : AO} {r : V × St} (h : evalOp op e σ = some r) : calleeOf e op = none := by
  cases op with
  | call f xs => cases h
  | callv x xs => cases h
  | _ => rfl
theorem wr_op {i : AI} (hw : wantedB e i = some true) : WR T pr (i :: l) kill k e σ Q = WX T pr (evalX i.op e σ) i.dst l kill k e σ Q := by
  refine propext ⟨fun ⟨e', σ', h, q⟩ => ?_, fun h => ?_⟩
  · cases h with
    | opsSkip hw' _ => rw [hw] at hw'; cases hw'
    | opsVal _ hv h =>
      unfold evalX
      rw [callee_none hv, hv]
      exact ⟨_, _, h, q⟩
    | opsPrim _ hc h1 h2 h3 h =>
      unfold evalX
      rw [hc]
      exact ⟨_, _, .prim h1 h2 h3, _, _, h, q⟩
    | opsPure _ hc h1 h2 h3 h4 h5 h6 h =>
      unfold evalX
      rw [hc]
      exact ⟨_, _, .pure h4 ⟨_, h1, h2, h3, _, _, h5, h6⟩, _, _, h, q⟩
    | opsThr _ hc h1 h2 h3 h4 h =>
      unfold evalX
      rw [hc]
      exact ⟨_, _, .thr ⟨_, h1, h2, h3, h4⟩, _, _, h, q⟩
    | opsSpec _ hc h1 h2 h3 h4 h =>
      unfold evalX
      rw [hc]
      exact ⟨_, _, .spec h1 h2 h3 h4, _, _, h, q⟩
  · unfold evalX at h
    split at h
    · rename_i f args hc
      obtain ⟨v, σ1, hs, e', σ', h, q⟩ := h
      exact ⟨e', σ', (hs.sg hw hc).ev h, q⟩
    · cases hv : evalOp i.op e σ with
      | none => rw [hv] at h; exact h.elim
      | some p =>
        obtain ⟨v, σ1⟩ := p
        rw [hv] at h
        obtain ⟨e', σ', h, q⟩ := h
        exact ⟨e', σ', .opsVal hw hv h, q⟩
theorem wr_o (d : Nat) (op : AO) : WR T pr (o d op :: l) kill k e σ Q = WX T pr (evalX op e σ) (some d) l kill k e σ Q := wr_op (i := o d op) rfl
theorem wr_on (op : AO) : WR T pr (on op :: l) kill k e σ Q = WX T pr (evalX op e σ) none l kill k e σ Q := wr_op (i := on op) rfl
theorem wr_skip {i : AI} (hw : wantedB e i = some false) : WR T pr (i :: l) kill k e σ Q = WR T pr l kill k (e.putO i.dst .skp) σ Q := by
  refine propext ⟨fun ⟨e', σ', h, q⟩ => ?_, fun ⟨e', σ', h, q⟩ => ⟨e', σ', .opsSkip hw h, q⟩⟩
  cases h with
  | opsSkip _ h => exact ⟨_, _, h, q⟩
  | opsVal hw' => rw [hw] at hw'; cases hw'
  | opsPrim hw' => rw [hw] at hw'; cases hw'
  | opsPure hw' => rw [hw] at hw'; cases hw'
  | opsThr hw' => rw [hw] at hw'; cases hw'
  | opsSpec hw' => rw [hw] at hw'; cases hw'
theorem wr_g {i : AI} {t : Nat} {w : Bool} (hg : i.g = some (t, w)) : WR T pr (i :: l) kill k e σ Q = WD T pr (e.get t) w i.dst i.op l kill k e σ Q := by
  unfold WD
  have hd : wantedB e i = (match e.get t with
    | .bool b => some (b == w)
    | .skp => some false
    | _ => none) := by unfold wantedB; rw [hg]; rfl
  have no : wantedB e i = none → WR T pr (i :: l) kill k e σ Q = False := by
    intro hn
    refine propext ⟨?_, False.elim⟩
    rintro ⟨e', σ', h, q⟩
    cases h with
    | opsSkip hw' => rw [hn] at hw'; cases hw'
    | opsVal hw' => rw [hn] at hw'; cases hw'
    | opsPrim hw' => rw [hn] at hw'; cases hw'
    | opsPure hw' => rw [hn] at hw'; cases hw'
    | opsThr hw' => rw [hn] at hw'; cases hw'
    | opsSpec hw' => rw [hn] at hw'; cases hw'
  split
  · rename_i b hb
    rw [hb] at hd
    simp only at hd
    split
    · rename_i hbw; subst hbw; exact wr_op (by rw [hd]; simp)
    · rename_i hbw; exact wr_skip (by rw [hd]; simp [hbw])
  · rename_i hb
    rw [hb] at hd
    exact wr_skip hd
  · rename_i h1 h2
    refine no ?_
    rw [hd]
    split
    · rename_i b hb; exact absurd hb (h1 b)
    · rename_i hb; exact absurd hb h2
    · rfl
theorem wr_og (d : Nat) (op : AO) (t : Nat) (w : Bool) : WR T pr (og d op t w :: l) kill k e σ Q = WD T pr (e.get t) w (some d) op l kill k e σ Q := wr_g (i := og d op t w) rfl
theorem wr_oh (op : AO) (t : Nat) (w : Bool) : WR T pr (oh op t w :: l) kill k e σ Q = WD T pr (e.get t) w none op l kill k e σ Q := wr_g (i := oh op t w) rfl
theorem wd_bool (b w : Bool) (d : Option Nat) (op : AO) : WD T pr (.bool b) w d op l kill k e σ Q = if b = w then WX T pr (evalX op e σ) d l kill k e σ Q else WR T pr l kill k (e.putO d .skp) σ Q := hide rfl
theorem wd_skp (w : Bool) (d : Option Nat) (op : AO) : WD T pr .skp w d op l kill k e σ Q = WR T pr l kill k (e.putO d .skp) σ Q := hide rfl
theorem wc_true (x y : AC) : WC T pr (.bool true) kill x y k e σ Q = WE T pr (e.del kill) (.c x :: k) σ Q := hide rfl
theorem wc_false (x y : AC) : WC T pr (.bool false) kill x y k e σ Q = WE T pr (e.del kill) (.c y :: k) σ Q := hide rfl
theorem wc_if {b : Bool} {x y : AC} (h1 : b = true → WE T pr (e.del kill) (.c x :: k) σ Q) (h2 : b = false → WE T pr (e.del kill) (.c y :: k) σ Q) : WC T pr (.bool b) kill x y k e σ Q := by
  cases b
  · exact h2 rfl
  · exact h1 rfl
theorem wd_if {b w : Bool} {d : Option Nat} {op : AO} (h1 : b = w → WX T pr (evalX op e σ) d l kill k e σ Q) (h2 : b = !w → WR T pr l kill k (e.putO d .skp) σ Q) : WD T pr (.bool b) w d op l kill k e σ Q := by
  rw [wd_bool]
  split
  · rename_i h; exact h1 h
  · rename_i h; exact h2 (by cases b <;> cases w <;> simp at h ⊢)
end
/-! only the first part is looked at while it is reckoned -/
section
variable {Q : Env → St → Prop} {e e' : Env} {σ σ' : St} {k : List It} {l : List AI} {kill : List Nat}
@[congr] theorem W_congr (h : e = e') : W T pr k e σ Q = W T pr k e' σ Q := by rw [h]
@[congr] theorem WE_congr (h : e = e') : WE T pr e k σ Q = WE T pr e' k σ Q := by rw [h]
@[congr] theorem WR_congr (h : e = e') : WR T pr l kill k e σ Q = WR T pr l kill k e' σ Q := by rw [h]
@[congr] theorem WX_congr {r r' : Rs} {d : Option Nat} (h : r = r') : WX T pr r d l kill k e σ Q = WX T pr r' d l kill k e σ Q := by rw [h]
@[congr] theorem WD_congr {g g' : V} {w : Bool} {d : Option Nat} {op : AO} (h : g = g') : WD T pr g w d op l kill k e σ Q = WD T pr g' w d op l kill k e σ Q := by rw [h]
@[congr] theorem WC_congr {g g' : V} {x y : AC} (h : g = g') : WC T pr g kill x y k e σ Q = WC T pr g' kill x y k e σ Q := by rw [h]
end
end Go.Proofs.YticpkkjnajmpoaaGreatDoor.KM
