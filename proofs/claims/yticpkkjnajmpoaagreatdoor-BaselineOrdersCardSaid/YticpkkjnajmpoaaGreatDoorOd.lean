/- The plain machine as a function, regions with a drawn order in general: it is right. -/
import Derived.Test.YticpkkjnajmpoaaGreatDoorOc
set_option linter.all false
namespace Go.Proofs.YticpkkjnajmpoaaGreatDoor.KM
open Go
variable {T : Nat → Option AF} {pr : Nat → Option (List V → Option V)}
def statQ : AC → Bool
  | .drw _ deps ops => statP deps ops
  | .seq a b => statQ a && statQ b
  | .cond _ _ a b => statQ a && statQ b
  | .blk _ c => statQ c
  | .loop _ c => statQ c
  | _ => true
def statJ : It → Bool
  | .c c => statQ c
  | .b _ => true
  | .l _ c => statQ c
theorem exitTo_statJ {id : Nat} : ∀ {k k' : List It}, exitTo id k = some k' → k.all (statJ) = true → k'.all (statJ) = true
  | [], _, h, _ => by cases h
  | .b i :: k, k', h, hk => by
    simp only [exitTo] at h
    simp only [List.all_cons, Bool.and_eq_true] at hk
    split at h
    · cases h; exact hk.2
    · exact exitTo_statJ h hk.2
  | .c c :: k, k', h, hk => by
    simp only [exitTo] at h
    simp only [List.all_cons, Bool.and_eq_true] at hk
    exact exitTo_statJ h hk.2
  | .l ks c :: k, k', h, hk => by
    simp only [exitTo] at h
    simp only [List.all_cons, Bool.and_eq_true] at hk
    exact exitTo_statJ h hk.2

section
variable (hst : ∀ f F, T f = some F → F.spec = none → statQ F.body = true)
theorem body_evD {rc : RunC} (ih : ∀ k e σ e' σ', k.all (statJ) = true → rc k e σ = some (e', σ') → Ev T pr (.code k e σ e' σ')) {f : Nat} {F : AF} (hT : T f = some F) (hsp : F.spec = none) (hc : statQ F.body = true) {vs : List V} {σ σ' : St} {v : V} (h : bodyF rc F vs σ = some (v, σ')) : Ev T pr (.fn f vs σ v σ') := by
  unfold bodyF at h
  split at h
  · rename_i hl
    obtain ⟨⟨e1, σ1⟩, hp, h⟩ := Option.bind_eq_some_iff.1 h
    unfold finF at h
    obtain ⟨v', hv, h⟩ := Option.bind_eq_some_iff.1 h
    have hE := ih _ _ _ _ _ (by simp [statJ, hc]) hp
    rcases leave_ev h with ⟨h1, h2, h3, rfl, rfl⟩ | ⟨js, h1, rfl, rfl⟩
    · exact .fn hT hsp hl hE hv h1 h2 (fun i ob hi ho => .inr (h3 i ob hi ho))
    · exact .fnL hT hsp hl hE hv h1
  · cases h
include hst in
theorem call_evD {rc : RunC} (ih : ∀ k e σ e' σ', k.all (statJ) = true → rc k e σ = some (e', σ') → Ev T pr (.code k e σ e' σ')) {s : Bool} {f : Nat} {args : List V} {σ σ1 : St} {v : V} (h : callF T pr rc s f args σ = some (v, σ1)) : CallR T pr s f args σ v σ1 := by
  unfold callF at h
  have strict : ∀ {s : Bool}, ¬ ((s && !(refsL args).isEmpty) = true) → s = true → refsL args = [] := fun {s} h1 h2 => by
    subst h2
    simpa using h1
  split at h
  · rename_i q hq
    split at h
    · cases h
    · rename_i hs
      obtain ⟨ws, hx, h⟩ := Option.bind_eq_some_iff.1 h
      obtain ⟨v', hv, h⟩ := Option.map_eq_some_iff.1 h
      cases h
      exact .prim hq (strict hs) hx hv
  · rename_i hq
    split at h
    · cases h
    · rename_i F hT
      split at h
      · rename_i q ht hsp
        exact .spec hq hT ht hsp h
      · rename_i ht hsp
        exact .thr hq hT ht hsp (body_evD ih hT hsp (hst _ _ hT hsp) h)
      · rename_i ht hsp
        split at h
        · cases h
        · rename_i hs
          unfold pureF at h
          obtain ⟨ws, hx, h⟩ := Option.bind_eq_some_iff.1 h
          obtain ⟨⟨v0, σ0⟩, hb, h⟩ := Option.bind_eq_some_iff.1 h
          obtain ⟨v', hv, h⟩ := Option.map_eq_some_iff.1 h
          cases h
          exact .pure (strict hs) hx ⟨F, hT, ht, hsp, v0, σ0, body_evD ih hT hsp (hst _ _ hT hsp) hb, hv⟩
      · cases h
include hst in
theorem ops_evD {rc : RunC} (ih : ∀ k e σ e' σ', k.all (statJ) = true → rc k e σ = some (e', σ') → Ev T pr (.code k e σ e' σ')) : ∀ {l : List AI} {e e' : Env} {σ σ' : St}, opsF (callF T pr rc) false l e σ = some (e', σ') → Ev T pr (.ops l e σ e' σ')
  | [], e, e', σ, σ', h => by cases h; exact .opsNil
  | i :: l, e, e', σ, σ', h => by
    unfold opsF at h
    split at h
    · rename_i hw
      obtain ⟨⟨v, σ1⟩, hp, h⟩ := Option.bind_eq_some_iff.1 h
      have hE := ops_evD ih h
      rcases op_call hp with ⟨_, hv⟩ | ⟨f, args, hc, hf, _⟩
      · exact .opsVal hw hv hE
      · cases call_evD hst ih hf with
        | prim h1 _ h2 h3 => exact .opsPrim hw hc h1 h2 h3 hE
        | pure _ h2 h3 =>
          obtain ⟨F, hT, ht, hsp, v0, σ0, h4, h5⟩ := h3
          exact .opsPure hw hc hT ht hsp h2 h4 h5 hE
        | thr _ hT ht hsp h4 => exact .opsThr hw hc hT ht hsp h4 hE
        | spec _ hT ht hsp h4 => exact .opsSpec hw hc hT ht hsp h4 hE
    · rename_i hw
      exact .opsSkip hw (ops_evD ih h)
    · cases h
include hst in
theorem opsD_tg {rc : RunC} (ih : ∀ k e σ e' σ', k.all statJ = true → rc k e σ = some (e', σ') → Ev T pr (.code k e σ e' σ')) {deps : List (List Nat)} {n : Nat} : ∀ {l : List AI} {k : Nat} {e e' : Env} {σ σ' : St} {fs : Efs} {ls : Rds} {ls' : List (Nat × (St → Prop))}, opsD T pr (callF T pr rc) deps n k l e σ fs ls = some (e', σ') →
    (∀ j s s1, (j, s, s1) ∈ fs → True) → (∀ j R, (j, R) ∈ ls' → (∀ s, R s) ∨ ∃ r, (j, r) ∈ ls ∧ R = RD.R r) → TG T pr deps n k l e σ fs ls' e' σ'
  | [], k, e, e', σ, σ', fs, ls, ls', h, _, _ => by cases h; exact .nil
  | i :: l, k, e, e', σ, σ', fs, ls, ls', h, hfs, hls => by
    unfold opsD at h
    have free : ∀ {v : V}, (∀ s, Sg T pr i e s v s) → opsD T pr (callF T pr rc) deps n (k + 1) l (e.putO i.dst v) σ fs ls = some (e', σ') → TG T pr deps n k (i :: l) e σ fs ls' e' σ' := fun {v} hs h =>
      .read (fun _ => True) trivial (fun s _ => hs s) (fun _ _ _ _ => .inr Iff.rfl) (opsD_tg ih h (fun _ _ _ _ => trivial) (fun j R hm => by
        rcases List.mem_cons.1 hm with hm | hm
        · cases hm; exact .inl fun _ => trivial
        · exact hls j R hm))
    split at h
    · rename_i hw
      obtain ⟨⟨v, σ1⟩, hp, h⟩ := Option.bind_eq_some_iff.1 h
      have rdr : ∀ {r : RD}, RD.R r σ → (∀ s, RD.R r s → Sg T pr i e s v s) → okRd deps n k fs r = true → opsD T pr (callF T pr rc) deps n (k + 1) l (e.putO i.dst v) σ fs ((k, r) :: ls) = some (e', σ') → TG T pr deps n k (i :: l) e σ fs ls' e' σ' := fun {r} h0 hs hok h =>
        .read (RD.R r) h0 hs (fun j s s1 hm => by
          have := List.all_eq_true.1 hok _ hm
          simp only [Bool.or_eq_true] at this
          exact this.imp befE_bef RD.same_ok) (opsD_tg ih h (fun _ _ _ _ => trivial) (fun j R hm => by
            rcases List.mem_cons.1 hm with hm | hm
            · cases hm; exact .inr ⟨r, List.mem_cons_self, rfl⟩
            · exact (hls j R hm).imp id fun ⟨r', h1, h2⟩ => ⟨r', List.mem_cons_of_mem _ h1, h2⟩))
      have eff : Sg T pr i e σ v σ1 → okEf deps n k fs ls σ σ1 = true → opsD T pr (callF T pr rc) deps n (k + 1) l (e.putO i.dst v) σ1 ((k, σ, σ1) :: fs) ls = some (e', σ') → TG T pr deps n k (i :: l) e σ fs ls' e' σ' := fun hs hok h => by
        unfold okEf at hok
        simp only [Bool.and_eq_true] at hok
        refine .eff hs (fun j s s1 hm => befE_bef (List.all_eq_true.1 hok.1 _ hm)) (fun j R hm => ?_) (opsD_tg ih h (fun _ _ _ _ => trivial) hls)
        rcases hls j R hm with h' | ⟨r, h1, rfl⟩
        · exact .inr ⟨fun _ => h' _, fun _ => h' _⟩
        · have := List.all_eq_true.1 hok.2 _ h1
          simp only [Bool.or_eq_true] at this
          exact this.imp befE_bef RD.same_ok
      rcases op_call hp with ⟨hnc, hv⟩ | ⟨f, args, hc, hf, _⟩
      · have hs : Sg T pr i e σ v σ1 := .val hw hv
        unfold kindD at h
        rw [hnc] at h
        simp only [Bool.false_eq_true, if_false] at h
        split at h
        · rename_i hk
          split at hk
          · rename_i h0
            refine free (fun s => .val hw ((evalOp_calm (by simpa using h0) hv).2 s)) h
          · split at hk
            · cases hk
            · cases hk
        · rename_i r hk
          split at hk
          · cases hk
          · split at hk
            · rename_i hr
              cases hk
              split at h
              · rename_i hok
                obtain rfl := rdOp_same hr hv
                exact rdr (r := .ev i.op e v) hv (fun s hs => .val hw hs) hok h
              · cases h
            · cases hk
        · split at h
          · rename_i hok
            exact eff hs hok h
          · cases h
      · have hcr := call_evD hst ih hf
        have hs : Sg T pr i e σ v σ1 := by
          cases hcr with
          | prim h1 _ h2 h3 => exact .prim hw hc h1 h2 h3
          | pure _ h2 h3 => exact .pure hw hc h2 h3
          | thr _ hT ht hsp h4 => exact .thr hw hc hT ht hsp h4
          | spec _ hT ht hsp h4 => exact .spec hw hc hT ht hsp h4
        have hic : isCall i.op = true := by
          cases hop : i.op with
          | call => rfl
          | callv => rfl
          | _ => rw [hop] at hc; simp [calleeOf] at hc
        unfold kindD at h
        rw [hic] at h
        simp only [if_true, hc] at h
        by_cases hcalm : calmF T pr f = true
        · rw [if_pos hcalm] at h
          -- a call that leaves the objects
          have hcr' : σ1 = after σ args v ∧ ∃ vs, over σ args = some vs ∧ ∀ s, over s args = some vs → after s args v = s → Sg T pr i e s v s := by
            cases hcr with
            | prim h1 _ h2 h3 => exact ⟨rfl, _, h2, fun s ho ha => by have := Sg.prim (T := T) hw hc h1 ho h3; rw [ha] at this; exact this⟩
            | pure _ h2 h3 => exact ⟨rfl, _, h2, fun s ho ha => by have := Sg.pure hw hc ho h3; rw [ha] at this; exact this⟩
            | thr hq hT ht hsp h4 => simp [calmF, hq, hT, ht] at hcalm
            | spec hq hT ht hsp h4 => simp [calmF, hq, hT, ht] at hcalm
          obtain ⟨hσ1, vs, hov, hall⟩ := hcr'
          by_cases hrefs : (refsL args).isEmpty = true
          · rw [if_pos hrefs] at h
            have hn : refsL args = [] := by simpa using hrefs
            exact free (fun s => hall s ((over_nil hn s).trans hov) (after_nil hn v)) h
          · rw [if_neg hrefs] at h
            by_cases hfl : v.flatV = true
            · rw [if_pos hfl] at h
              rw [hov] at h
              simp only [Option.getD_some] at h
              split at h
              · rename_i hok
                exact rdr (r := .ov args vs) hov (fun s hs => hall s hs (by unfold after; rw [if_pos hfl])) hok h
              · cases h
            · rw [if_neg hfl] at h
              simp only at h
              split at h
              · rename_i hok
                exact eff hs hok h
              · cases h
        · rw [if_neg hcalm] at h
          simp only at h
          split at h
          · rename_i hok
            exact eff hs hok h
          · cases h
    · rename_i hw
      exact free (fun s => .off hw) h
    · cases h
include hst in
theorem run_evD : ∀ (n : Nat) (k : List It) (e : Env) (σ : St) (e' : Env) (σ' : St), k.all (statJ) = true → runD T pr n k e σ = some (e', σ') → Ev T pr (.code k e σ e' σ')
  | 0, _, _, _, _, _, _, h => by cases h
  | n + 1, k, e, σ, e', σ', hk, h => by
    have ih := run_evD n
    simp only [runD] at h
    unfold stepD at h
    split at h
    · cases h; exact .cNil
    · simp only [List.all_cons, Bool.and_eq_true] at hk
      exact .cEnd (ih _ _ _ _ _ hk.2 h)
    · simp only [List.all_cons, Bool.and_eq_true] at hk
      exact .cAgain (ih _ _ _ _ _ (by simp only [List.all_cons, Bool.and_eq_true]; exact ⟨hk.1, hk⟩) h)
    · simp only [List.all_cons, Bool.and_eq_true] at hk
      obtain ⟨hc, hk⟩ := hk
      split at h
      · exact .cSkip (ih _ _ _ _ _ hk h)
      · obtain ⟨⟨e1, σ1⟩, hp, h⟩ := Option.bind_eq_some_iff.1 h
        exact .cReg (ops_evD hst ih hp) (ih _ _ _ _ _ hk h)
      · rename_i kill deps ops
        obtain ⟨⟨e1, σ1⟩, hp, h⟩ := Option.bind_eq_some_iff.1 h
        have hc' : statP deps ops = true := hc
        obtain ⟨E2, h1, h2⟩ := draw2_ok hc' (opsD_tg hst ih hp (fun _ _ _ h => by cases h) (fun _ _ h => by cases h))
        exact .cDrw E2 h1 h2 (ih _ _ _ _ _ hk h)
      · simp only [statJ, statQ, Bool.and_eq_true] at hc
        exact .cSeq (ih _ _ _ _ _ (by simp only [List.all_cons, Bool.and_eq_true, statJ]; exact ⟨hc.1, hc.2, hk⟩) h)
      · obtain ⟨z, hz, h⟩ := Option.bind_eq_some_iff.1 h
        simp only [statJ, statQ, Bool.and_eq_true] at hc
        refine .cCond (z := z) ?_ (ih _ _ _ _ _ (by simp only [List.all_cons, Bool.and_eq_true, statJ]; refine ⟨?_, hk⟩; cases z; exact hc.2; exact hc.1) h)
        unfold boolV at hz
        split at hz
        · rename_i hb; cases hz; exact hb
        · cases hz
      · exact .cBlk (ih _ _ _ _ _ (by simp only [List.all_cons, Bool.and_eq_true, statJ]; exact ⟨hc, trivial, hk⟩) h)
      · exact .cLoop (ih _ _ _ _ _ (by simp only [List.all_cons, Bool.and_eq_true, statJ]; exact ⟨hc, hk⟩) h)
      · obtain ⟨k', hx, h⟩ := Option.bind_eq_some_iff.1 h
        exact .cExit hx (ih _ _ _ _ _ (exitTo_statJ hx hk) h)
      · cases h; exact .cRet
include hst in
/-- A PURE FUNCTION BY A RUN -/
theorem run_fnD {n f : Nat} {F : AF} (hT : T f = some F) (ht : F.thr = false) (hsp : F.spec = none) {vs : List V} {v : V} (h : ((bodyF (runD T pr n) F vs []).bind fun p => back p.2 p.1) = some v) : Fn T pr f vs v := by
  obtain ⟨⟨v0, σ0⟩, hb, h⟩ := Option.bind_eq_some_iff.1 h
  exact ⟨F, hT, ht, hsp, v0, σ0, body_evD (fun _ _ _ _ _ hk h => run_evD hst n _ _ _ _ _ hk h) hT hsp (hst _ _ hT hsp) hb, h⟩
end
end Go.Proofs.YticpkkjnajmpoaaGreatDoor.KM
