/- Walking by rewriting: code that may panic. -/
import Derived.Test.YtikkmcchhddfoaaGreatDoorQp
set_option linter.all false
namespace Go.Proofs.YtikkmcchhddfoaaGreatDoor.KM
open Go
def XW (T : Nat → Option AF) (pr : Nat → Option (List V → Option V)) (pan : Nat → Bool) (k : List It) (e : Env) (σ : St) (Q : Out → Prop) : Prop := ∃ r, EvX T pr pan (.code k e σ r) ∧ Q r
def XE (T : Nat → Option AF) (pr : Nat → Option (List V → Option V)) (pan : Nat → Bool) (e : Env) (k : List It) (σ : St) (Q : Out → Prop) : Prop := XW T pr pan k e σ Q
def XT (T : Nat → Option AF) (pr : Nat → Option (List V → Option V)) (pan : Nat → Bool) (kill : List Nat) (k : List It) (Q : Out → Prop) : Out → Prop
  | .ok e1 σ1 => XW T pr pan k (e1.del kill) σ1 Q
  | .pan e1 σ1 => Q (.pan e1 σ1)
def XR (T : Nat → Option AF) (pr : Nat → Option (List V → Option V)) (pan : Nat → Bool) (l : List AI) (kill : List Nat) (k : List It) (e : Env) (σ : St) (Q : Out → Prop) : Prop := ∃ r, EvX T pr pan (.ops l e σ r) ∧ XT T pr pan kill k Q r
def XX (T : Nat → Option AF) (pr : Nat → Option (List V → Option V)) (pan : Nat → Bool) (r : Rs) (d : Option Nat) (l : List AI) (kill : List Nat) (k : List It) (e : Env) (σ : St) (Q : Out → Prop) : Prop :=
  match r with
  | .val v σ1 => XR T pr pan l kill k (e.putO d v) σ1 Q
  | .call f args => (∃ v σ1, CallS T pr f args σ v σ1 ∧ XR T pr pan l kill k (e.putO d v) σ1 Q) ∨ ∃ σ1, EvX T pr pan (.fnP f args σ σ1) ∧ Q (.pan e σ1)
  | .fail => False
def XD (T : Nat → Option AF) (pr : Nat → Option (List V → Option V)) (pan : Nat → Bool) (g : V) (w : Bool) (d : Option Nat) (op : AO) (l : List AI) (kill : List Nat) (k : List It) (e : Env) (σ : St) (Q : Out → Prop) : Prop :=
  match g with
  | .bool b => if b = w then XX T pr pan (evalX op e σ) d l kill k e σ Q else XR T pr pan l kill k (e.putO d .skp) σ Q
  | .skp => XR T pr pan l kill k (e.putO d .skp) σ Q
  | _ => False
def XC (T : Nat → Option AF) (pr : Nat → Option (List V → Option V)) (pan : Nat → Bool) (g : V) (kill : List Nat) (x y : AC) (k : List It) (e : Env) (σ : St) (Q : Out → Prop) : Prop :=
  match g with
  | .bool true => XE T pr pan (e.del kill) (.c x :: k) σ Q
  | .bool false => XE T pr pan (e.del kill) (.c y :: k) σ Q
  | _ => False
def XJ (T : Nat → Option AF) (pr : Nat → Option (List V → Option V)) (pan : Nat → Bool) (id : Nat) : List It → Env → St → (Out → Prop) → Prop
  | [], _, _, _ => False
  | .b i :: k, e, σ, Q => if i = id then XW T pr pan k e σ Q else XJ T pr pan id k e σ Q
  | .c _ :: k, e, σ, Q => XJ T pr pan id k e σ Q
  | .l _ _ :: k, e, σ, Q => XJ T pr pan id k e σ Q
section
variable {T : Nat → Option AF} {pr : Nat → Option (List V → Option V)} {pan : Nat → Bool} {Q : Out → Prop} {e : Env} {σ : St} {k : List It} {l : List AI} {kill : List Nat}
theorem x_seq (a b : AC) : XW T pr pan (.c (.seq a b) :: k) e σ Q = XW T pr pan (.c a :: .c b :: k) e σ Q := propext ⟨fun ⟨r, h, q⟩ => by cases h with | cSeq h => exact ⟨r, h, q⟩, fun ⟨r, h, q⟩ => ⟨r, .cSeq h, q⟩⟩
theorem x_skip : XW T pr pan (.c .skip :: k) e σ Q = XW T pr pan k e σ Q := propext ⟨fun ⟨r, h, q⟩ => by cases h with | cSkip h => exact ⟨r, h, q⟩, fun ⟨r, h, q⟩ => ⟨r, .cSkip h, q⟩⟩
theorem x_blk (id : Nat) (c : AC) : XW T pr pan (.c (.blk id c) :: k) e σ Q = XW T pr pan (.c c :: .b id :: k) e σ Q := propext ⟨fun ⟨r, h, q⟩ => by cases h with | cBlk h => exact ⟨r, h, q⟩, fun ⟨r, h, q⟩ => ⟨r, .cBlk h, q⟩⟩
theorem x_end (id : Nat) : XW T pr pan (.b id :: k) e σ Q = XW T pr pan k e σ Q := propext ⟨fun ⟨r, h, q⟩ => by cases h with | cEnd h => exact ⟨r, h, q⟩, fun ⟨r, h, q⟩ => ⟨r, .cEnd h, q⟩⟩
theorem X_keep {keep : List Nat} {c : AC} {e' : Env} (h : XW T pr pan (.l keep c :: k) e σ Q) (he : e.keep keep = e'.keep keep) : XW T pr pan (.l keep c :: k) e' σ Q := by
  obtain ⟨r, h, q⟩ := h
  cases h with
  | cAgain h => exact ⟨r, .cAgain (by rw [← he]; exact h), q⟩
theorem x_loop (keep : List Nat) (c : AC) : XW T pr pan (.c (.loop keep c) :: k) e σ Q = XE T pr pan (e.keep keep) (.l keep c :: k) σ Q := by
  refine propext ⟨fun ⟨r, h, q⟩ => ?_, fun h => ?_⟩
  · cases h with
    | cLoop h => exact X_keep ⟨r, h, q⟩ (keep_keep e keep)
  · obtain ⟨r, h, q⟩ := X_keep (T := T) (pr := pr) (pan := pan) h (keep_keep e keep).symm
    exact ⟨r, .cLoop h, q⟩
theorem x_again (keep : List Nat) (c : AC) : XW T pr pan (.l keep c :: k) e σ Q = XE T pr pan (e.keep keep) (.c c :: .l keep c :: k) σ Q := propext ⟨fun ⟨r, h, q⟩ => by cases h with | cAgain h => exact ⟨r, h, q⟩, fun ⟨r, h, q⟩ => ⟨r, .cAgain h, q⟩⟩
theorem x_ret : XW T pr pan (.c .ret :: k) e σ Q = Q (.ok e σ) := propext ⟨fun ⟨r, h, q⟩ => by cases h with | cRet => exact q, fun q => ⟨_, .cRet, q⟩⟩
theorem x_nil : XW T pr pan [] e σ Q = Q (.ok e σ) := propext ⟨fun ⟨r, h, q⟩ => by cases h with | cNil => exact q, fun q => ⟨_, .cNil, q⟩⟩
theorem x_reg (ops : List AI) : XW T pr pan (.c (.reg kill ops) :: k) e σ Q = XR T pr pan ops kill k e σ Q := by
  refine propext ⟨fun ⟨r, h, q⟩ => ?_, fun ⟨r, h, q⟩ => ?_⟩
  · cases h with
    | cReg h h2 => exact ⟨_, h, r, h2, q⟩
    | cRegP h => exact ⟨_, h, q⟩
  · cases r with
    | ok e1 σ1 => obtain ⟨r, h2, q⟩ := q; exact ⟨r, .cReg h h2, q⟩
    | pan e1 σ1 => exact ⟨_, .cRegP h, q⟩
theorem x_cond (c : S) (x y : AC) : XW T pr pan (.c (.cond c kill x y) :: k) e σ Q = XC T pr pan (src e c) kill x y k e σ Q := by
  refine propext ⟨fun ⟨r, h, q⟩ => ?_, fun h => ?_⟩
  · cases h with
    | cCond hc h =>
      rw [hc]
      rename_i z
      cases z
      · exact ⟨r, h, q⟩
      · exact ⟨r, h, q⟩
  · unfold XC at h
    split at h
    · rename_i hc; obtain ⟨r, h, q⟩ := h; exact ⟨r, .cCond hc h, q⟩
    · rename_i hc; obtain ⟨r, h, q⟩ := h; exact ⟨r, .cCond hc h, q⟩
    · exact h.elim
theorem xj_ok (id : Nat) : ∀ k' : List It, XJ T pr pan id k' e σ Q ↔ ∃ k2, exitTo id k' = some k2 ∧ XW T pr pan k2 e σ Q
  | [] => by simp [XJ, exitTo]
  | .b i :: k' => by
    simp only [XJ, exitTo]
    split
    · simp
    · exact xj_ok id k'
  | .c _ :: k' => by simp only [XJ, exitTo]; exact xj_ok id k'
  | .l _ _ :: k' => by simp only [XJ, exitTo]; exact xj_ok id k'
theorem x_exit (id : Nat) : XW T pr pan (.c (.exit id) :: k) e σ Q = XJ T pr pan id k e σ Q := propext ⟨fun ⟨r, h, q⟩ => by cases h with | cExit hk h => exact (xj_ok id k).2 ⟨_, hk, r, h, q⟩, fun h => let ⟨_, h1, r, h2, q⟩ := (xj_ok id k).1 h; ⟨r, .cExit h1 h2, q⟩⟩
theorem xj_b (id i : Nat) : XJ T pr pan id (.b i :: k) e σ Q = if i = id then XW T pr pan k e σ Q else XJ T pr pan id k e σ Q := hide rfl
theorem xj_c (id : Nat) (c : AC) : XJ T pr pan id (.c c :: k) e σ Q = XJ T pr pan id k e σ Q := hide rfl
theorem xj_l (id : Nat) (kp : List Nat) (c : AC) : XJ T pr pan id (.l kp c :: k) e σ Q = XJ T pr pan id k e σ Q := hide rfl
theorem xe : XE T pr pan e k σ Q = XW T pr pan k e σ Q := hide rfl
theorem xr_nil : XR T pr pan [] kill k e σ Q = XE T pr pan (e.del kill) k σ Q := propext ⟨fun ⟨_, h, q⟩ => by cases h with | opsNil => exact q, fun h => ⟨_, .opsNil, h⟩⟩
theorem xx_val (v : V) (σ1 : St) (d : Option Nat) : XX T pr pan (.val v σ1) d l kill k e σ Q = XR T pr pan l kill k (e.putO d v) σ1 Q := hide rfl
theorem xx_fail (d : Option Nat) : XX T pr pan .fail d l kill k e σ Q = False := hide rfl
theorem xx_call {f : Nat} {args : List V} {d : Option Nat} {v : V} {σ1 : St} (hc : CallS T pr f args σ v σ1) (h : XR T pr pan l kill k (e.putO d v) σ1 Q) : XX T pr pan (.call f args) d l kill k e σ Q := .inl ⟨v, σ1, hc, h⟩
theorem xx_pan {f : Nat} {args : List V} {d : Option Nat} {σ1 : St} (hc : EvX T pr pan (.fnP f args σ σ1)) (h : Q (.pan e σ1)) : XX T pr pan (.call f args) d l kill k e σ Q := .inr ⟨σ1, hc, h⟩
theorem sg_x {i : AI} {v : V} {σ1 : St} (hw : wantedB e i = some true) (hs : Sg T pr i e σ v σ1) (h : XR T pr pan l kill k (e.putO i.dst v) σ1 Q) : XX T pr pan (evalX i.op e σ) i.dst l kill k e σ Q := by
  cases hs with
  | off hw' => rw [hw] at hw'; cases hw'
  | val _ hv =>
    unfold evalX
    rw [callee_none hv, hv]
    exact h
  | prim _ hc h1 h2 h3 => unfold evalX; rw [hc]; exact .inl ⟨_, _, .prim h1 h2 h3, h⟩
  | pure _ hc h1 h2 => unfold evalX; rw [hc]; exact .inl ⟨_, _, .pure h1 h2, h⟩
  | own _ hc h1 h2 h3 hx h4 => unfold evalX; rw [hc]; exact .inl ⟨_, _, .own hx ⟨_, h1, h2, h3, h4⟩, h⟩
  | any _ hc h1 h3 h4 => unfold evalX; rw [hc]; exact .inl ⟨_, _, .any ⟨_, h1, h3, h4⟩, h⟩
  | thr _ hc h1 h2 h3 h4 => unfold evalX; rw [hc]; exact .inl ⟨_, _, .thr ⟨_, h1, h2, h3, h4⟩, h⟩
  | spec _ hc h1 h2 h3 h4 => unfold evalX; rw [hc]; exact .inl ⟨_, _, .spec h1 h2 h3 h4, h⟩
theorem xr_op {i : AI} (hw : wantedB e i = some true) : XR T pr pan (i :: l) kill k e σ Q = XX T pr pan (evalX i.op e σ) i.dst l kill k e σ Q := by
  refine propext ⟨fun ⟨r, h, q⟩ => ?_, fun h => ?_⟩
  · cases h with
    | opsStep hs h => exact sg_x hw hs ⟨r, h, q⟩
    | opsPan _ hc h =>
      unfold evalX
      rw [hc]
      exact .inr ⟨_, h, q⟩
  · unfold evalX at h
    split at h
    · rename_i f args hc
      rcases h with ⟨v, σ1, hs, r, h, q⟩ | ⟨σ1, h, q⟩
      · exact ⟨r, .opsStep (hs.sg hw hc) h, q⟩
      · exact ⟨_, .opsPan hw hc h, q⟩
    · cases hv : evalOp i.op e σ with
      | none => rw [hv] at h; exact h.elim
      | some p =>
        obtain ⟨v, σ1⟩ := p
        rw [hv] at h
        obtain ⟨r, h, q⟩ := h
        exact ⟨r, .opsStep (.val hw hv) h, q⟩
theorem xr_o (d : Nat) (op : AO) : XR T pr pan (o d op :: l) kill k e σ Q = XX T pr pan (evalX op e σ) (some d) l kill k e σ Q := xr_op (i := o d op) rfl
theorem xr_on (op : AO) : XR T pr pan (on op :: l) kill k e σ Q = XX T pr pan (evalX op e σ) none l kill k e σ Q := xr_op (i := on op) rfl
theorem xr_skip {i : AI} (hw : wantedB e i = some false) : XR T pr pan (i :: l) kill k e σ Q = XR T pr pan l kill k (e.putO i.dst .skp) σ Q := by
  refine propext ⟨fun ⟨r, h, q⟩ => ?_, fun ⟨r, h, q⟩ => ⟨r, .opsStep (.off hw) h, q⟩⟩
  cases h with
  | opsStep hs h =>
    cases hs with
    | off _ => exact ⟨r, h, q⟩
    | val hw' => rw [hw] at hw'; cases hw'
    | prim hw' => rw [hw] at hw'; cases hw'
    | pure hw' => rw [hw] at hw'; cases hw'
    | own hw' => rw [hw] at hw'; cases hw'
    | any hw' => rw [hw] at hw'; cases hw'
    | thr hw' => rw [hw] at hw'; cases hw'
    | spec hw' => rw [hw] at hw'; cases hw'
  | opsPan hw' => rw [hw] at hw'; cases hw'
theorem xr_g {i : AI} {t : Nat} {w : Bool} (hg : i.g = some (t, w)) : XR T pr pan (i :: l) kill k e σ Q = XD T pr pan (e.get t) w i.dst i.op l kill k e σ Q := by
  unfold XD
  have hd : wantedB e i = (match e.get t with
    | .bool b => some (b == w)
    | .skp => some false
    | _ => none) := by unfold wantedB; rw [hg]; rfl
  have no : wantedB e i = none → XR T pr pan (i :: l) kill k e σ Q = False := by
    intro hn
    refine propext ⟨?_, False.elim⟩
    rintro ⟨r, h, q⟩
    cases h with
    | opsStep hs h =>
      cases hs with
      | off hw' => rw [hn] at hw'; cases hw'
      | val hw' => rw [hn] at hw'; cases hw'
      | prim hw' => rw [hn] at hw'; cases hw'
      | pure hw' => rw [hn] at hw'; cases hw'
      | own hw' => rw [hn] at hw'; cases hw'
      | any hw' => rw [hn] at hw'; cases hw'
      | thr hw' => rw [hn] at hw'; cases hw'
      | spec hw' => rw [hn] at hw'; cases hw'
    | opsPan hw' => rw [hn] at hw'; cases hw'
  split
  · rename_i b hb
    rw [hb] at hd
    simp only at hd
    split
    · rename_i hbw; subst hbw; exact xr_op (by rw [hd]; simp)
    · rename_i hbw; exact xr_skip (by rw [hd]; simp [hbw])
  · rename_i hb
    rw [hb] at hd
    exact xr_skip hd
  · rename_i h1 h2
    refine no ?_
    rw [hd]
    split
    · rename_i b hb; exact absurd hb (h1 b)
    · rename_i hb; exact absurd hb h2
    · rfl
theorem xr_og (d : Nat) (op : AO) (t : Nat) (w : Bool) : XR T pr pan (og d op t w :: l) kill k e σ Q = XD T pr pan (e.get t) w (some d) op l kill k e σ Q := xr_g (i := og d op t w) rfl
theorem xr_oh (op : AO) (t : Nat) (w : Bool) : XR T pr pan (oh op t w :: l) kill k e σ Q = XD T pr pan (e.get t) w none op l kill k e σ Q := xr_g (i := oh op t w) rfl
theorem xd_tt (d : Option Nat) (op : AO) : XD T pr pan (.bool true) true d op l kill k e σ Q = XX T pr pan (evalX op e σ) d l kill k e σ Q := hide rfl
theorem xd_ff (d : Option Nat) (op : AO) : XD T pr pan (.bool false) false d op l kill k e σ Q = XX T pr pan (evalX op e σ) d l kill k e σ Q := hide rfl
theorem xd_tf (d : Option Nat) (op : AO) : XD T pr pan (.bool true) false d op l kill k e σ Q = XR T pr pan l kill k (e.putO d .skp) σ Q := hide rfl
theorem xd_ft (d : Option Nat) (op : AO) : XD T pr pan (.bool false) true d op l kill k e σ Q = XR T pr pan l kill k (e.putO d .skp) σ Q := hide rfl
theorem xd_skp (w : Bool) (d : Option Nat) (op : AO) : XD T pr pan .skp w d op l kill k e σ Q = XR T pr pan l kill k (e.putO d .skp) σ Q := hide rfl
theorem xc_true (x y : AC) : XC T pr pan (.bool true) kill x y k e σ Q = XE T pr pan (e.del kill) (.c x :: k) σ Q := hide rfl
theorem xc_false (x y : AC) : XC T pr pan (.bool false) kill x y k e σ Q = XE T pr pan (e.del kill) (.c y :: k) σ Q := hide rfl
theorem x_rep {keep : List Nat} {c c' : AC} (hc : c = c') (h : XE T pr pan (e.keep keep) (.c c' :: .l keep c :: k) σ Q) : XW T pr pan (.l keep c :: k) e σ Q := by
  subst hc
  rw [x_again]
  exact h
theorem loop_x {keep : List Nat} {c : AC} {α : Type} (μ : α → Nat) (E : α → Env) (Z : α → St) (I : α → Prop)
    (h : ∀ a, I a → (∀ b, μ b < μ a → I b → XW T pr pan (.l keep c :: k) (E b) (Z b) Q) → XW T pr pan (.l keep c :: k) (E a) (Z a) Q) (a : α) (ha : I a) : XW T pr pan (.l keep c :: k) (E a) (Z a) Q := by
  have : ∀ n a, μ a = n → I a → XW T pr pan (.l keep c :: k) (E a) (Z a) Q := by
    intro n
    induction n using Nat.strongRecOn with
    | ind n ih => exact fun a hn ha => h a ha fun b hb hI => ih (μ b) (by omega) b rfl hI
  exact this _ a rfl ha
end
section
variable {T : Nat → Option AF} {pr : Nat → Option (List V → Option V)} {pan : Nat → Bool} {Q : Out → Prop} {e e' : Env} {σ : St} {k : List It} {l : List AI} {kill : List Nat}
@[congr] theorem XW_congr (h : e = e') : XW T pr pan k e σ Q = XW T pr pan k e' σ Q := by rw [h]
@[congr] theorem XE_congr (h : e = e') : XE T pr pan e k σ Q = XE T pr pan e' k σ Q := by rw [h]
@[congr] theorem XR_congr (h : e = e') : XR T pr pan l kill k e σ Q = XR T pr pan l kill k e' σ Q := by rw [h]
@[congr] theorem XX_congr {r r' : Rs} {d : Option Nat} (h : r = r') : XX T pr pan r d l kill k e σ Q = XX T pr pan r' d l kill k e σ Q := by rw [h]
@[congr] theorem XD_congr {g g' : V} {w : Bool} {d : Option Nat} {op : AO} (h : g = g') : XD T pr pan g w d op l kill k e σ Q = XD T pr pan g' w d op l kill k e σ Q := by rw [h]
@[congr] theorem XC_congr {g g' : V} {x y : AC} (h : g = g') : XC T pr pan g kill x y k e σ Q = XC T pr pan g' kill x y k e σ Q := by rw [h]
end
attribute [go_sem ↓] x_seq x_skip x_blk x_end x_loop x_nil x_ret x_reg x_cond x_exit xj_b xj_c xj_l xr_nil xr_o xr_on xr_og xr_oh
attribute [go_sem] xe xx_val xx_fail xd_skp xd_tt xd_ff xd_tf xd_ft xc_true xc_false
/-- a call that panics -/
theorem fnP_go {T : Nat → Option AF} {pr : Nat → Option (List V → Option V)} {pan : Nat → Bool} {f p : Nat} {res : List AR} {thr : Bool} {body : AC} {vs : List V} {σ σ' : St} (hT : T f = some ⟨p, res, thr, body, none⟩) (hl : vs.length = p)
    (h : XW T pr pan [.c body] (parEnv 0 vs) σ fun r => ∃ e', r = .pan e' σ') : EvX T pr pan (.fnP f vs σ σ') := by
  obtain ⟨r, h, e', rfl⟩ := h
  exact .fnP hT rfl hl h
end Go.Proofs.YtikkmcchhddfoaaGreatDoor.KM
