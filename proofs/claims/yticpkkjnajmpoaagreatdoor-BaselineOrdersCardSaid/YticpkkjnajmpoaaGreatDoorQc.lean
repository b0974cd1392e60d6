/- Walking by rewriting: drawn regions, calls, ends. -/
import Derived.Test.YticpkkjnajmpoaaGreatDoorQb
set_option linter.all false
namespace Go.Proofs.YticpkkjnajmpoaaGreatDoor.KM
open Go
variable {T : Nat → Option AF} {pr : Nat → Option (List V → Option V)}
/-- which kind of step: whatever the state, a read, an effect -/
inductive Kd where
  | pu | rd | ef
def kd : AO → Kd
  | .new _ _ | .box _ _ | .store _ _ _ | .app _ _ _ _ | .apps _ _ _ | .rowf _ _ _ | .rowo _ _ _ _ | .mk _ _ _ _ _ | .stb _ _ | .mmk | .mup _ _ _ | .call _ _ | .callv _ _ => .ef
  | .load _ _ _ | .mlk _ _ _ | .bts _ | .cvl _ => .rd
  | _ => .pu
theorem kd_pu {op : AO} (h : kd op = .pu) : cls T pr op = 0 := by
  cases op <;> simp [kd] at h <;> simp [cls]
theorem kd_rd {op : AO} (h : kd op = .rd) {e : Env} {σ σ1 : St} {v : V} (hv : evalOp op e σ = some (v, σ1)) : σ1 = σ := by
  cases op with
  | load n one x =>
    simp only [evalOp, Option.map_eq_some_iff] at hv
    obtain ⟨_, _, h⟩ := hv
    cases h; rfl
  | mlk z x k =>
    simp only [evalOp] at hv
    split at hv
    · split at hv
      · cases hv; rfl
      · cases hv
    · cases hv
  | bts x =>
    simp only [evalOp, Option.bind_eq_some_iff, Option.map_eq_some_iff] at hv
    obtain ⟨_, _, _, _, h⟩ := hv
    cases h; rfl
  | cvl x =>
    simp only [evalOp] at hv
    split at hv
    · split at hv
      · split at hv
        · cases hv; rfl
        · cases hv
      · cases hv
    · cases hv
  | _ => simp [kd] at h
def CallP (T : Nat → Option AF) (pr : Nat → Option (List V → Option V)) (f : Nat) (vs : List V) (v : V) : Prop := (∃ s, pr f = some s ∧ s vs = some v) ∨ Fn T pr f vs v
theorem CallP.sg {i : AI} {f : Nat} {args vs : List V} {e : Env} {σ : St} {v : V} (h : CallP T pr f vs v) (hw : wantedB e i = some true) (hc : calleeOf e i.op = some (f, args)) (hx : over σ args = some vs) : Sg T pr i e σ v (after σ args v) := by
  rcases h with ⟨s, h1, h2⟩ | h
  · exact .prim hw hc h1 hx h2
  · exact .pure hw hc hx h
def wgk (deps : List (List Nat)) (n m : Nat) (i : AI) (z : Kd) (v : V) (σ1 : St) (e : Env) (σ : St) (fs : Fs) (ls : Ls) (K : Env → St → Fs → Ls → Prop) : Prop :=
  match z with
  | .pu => K (e.putO i.dst v) σ fs ls
  | .rd => chF deps n m (fun s => evalOp i.op e s = some (v, s)) fs ∧ K (e.putO i.dst v) σ fs ((m, fun s => evalOp i.op e s = some (v, s)) :: ls)
  | .ef => chB deps n m fs ∧ chR deps n m σ σ1 ls ∧ K (e.putO i.dst v) σ1 ((m, σ, σ1) :: fs) ls
def wgx (T : Nat → Option AF) (pr : Nat → Option (List V → Option V)) (deps : List (List Nat)) (n m : Nat) (i : AI) (r : Rs) (e : Env) (σ : St) (fs : Fs) (ls : Ls) (K : Env → St → Fs → Ls → Prop) : Prop :=
  match r with
  | .val v σ1 => wgk deps n m i (kd i.op) v σ1 e σ fs ls K
  | .call f args => (∃ v vs, refsL args = [] ∧ over σ args = some vs ∧ CallP T pr f vs v ∧ K (e.putO i.dst v) σ fs ls) ∨
      (∃ v vs, over σ args = some vs ∧ CallP T pr f vs v ∧ v.flatV = true ∧ chF deps n m (fun s => over s args = some vs) fs ∧ K (e.putO i.dst v) σ fs ((m, fun s => over s args = some vs) :: ls)) ∨
      (∃ v σ1, CallS T pr f args σ v σ1 ∧ chB deps n m fs ∧ chR deps n m σ σ1 ls ∧ K (e.putO i.dst v) σ1 ((m, σ, σ1) :: fs) ls)
  | .fail => False
def wgd (T : Nat → Option AF) (pr : Nat → Option (List V → Option V)) (deps : List (List Nat)) (n m : Nat) (i : AI) (g : Option V) (w : Bool) (e : Env) (σ : St) (fs : Fs) (ls : Ls) (K : Env → St → Fs → Ls → Prop) : Prop :=
  match g with
  | none => wgx T pr deps n m i (evalX i.op e σ) e σ fs ls K
  | some (.bool b) => if b = w then wgx T pr deps n m i (evalX i.op e σ) e σ fs ls K else K (e.putO i.dst .skp) σ fs ls
  | some .skp => K (e.putO i.dst .skp) σ fs ls
  | some _ => False
def wg (T : Nat → Option AF) (pr : Nat → Option (List V → Option V)) (deps : List (List Nat)) (n : Nat) (kill : List Nat) (k : List It) (Q : Env → St → Prop) : Nat → List AI → Env → St → Fs → Ls → Prop
  | _, [], e, σ, _, _ => WE T pr (e.del kill) k σ Q
  | m, i :: l, e, σ, fs, ls => wgd T pr deps n m i (i.g.map fun p => e.get p.1) ((i.g.map fun p => p.2).getD true) e σ fs ls (wg T pr deps n kill k Q (m + 1) l)
section
variable {Q : Env → St → Prop} {e : Env} {σ : St} {k : List It} {kill : List Nat} {deps : List (List Nat)} {n : Nat}
theorem wgx_ok {m : Nat} {i : AI} {l : List AI} {fs : Fs} {ls : Ls} {K : Env → St → Prop} {P : Env → St → Fs → Ls → Prop} (hP : ∀ e σ fs ls, P e σ fs ls → WG T pr deps n (m + 1) l e σ fs ls K)
    (hw : wantedB e i = some true) (h : wgx T pr deps n m i (evalX i.op e σ) e σ fs ls P) : WG T pr deps n m (i :: l) e σ fs ls K := by
  unfold evalX at h
  split at h
  · rename_i f args hc
    rcases h with ⟨v, vs, h1, h2, h3, h4⟩ | ⟨v, vs, h1, h2, h3, h4, h5⟩ | ⟨v, σ1, h1, h2, h3, h4⟩
    · refine WG_any (fun s => ?_) (hP _ _ _ _ h4)
      have := h3.sg (σ := s) hw hc ((over_nil h1 s).trans h2)
      rw [after_nil h1] at this
      exact this
    · obtain ⟨e', σ', h, q⟩ := hP _ _ _ _ h5
      refine ⟨e', σ', .read (fun s => over s args = some vs) h1 (fun s hs => ?_) (chF_mem h4) h, q⟩
      have := h2.sg (σ := s) hw hc hs
      unfold after at this
      rw [if_pos h3] at this
      exact this
    · exact WG_eff (h1.sg hw hc) h2 h3 (hP _ _ _ _ h4)
  · cases hv : evalOp i.op e σ with
    | none => rw [hv] at h; exact h.elim
    | some p =>
      obtain ⟨v, σ1⟩ := p
      rw [hv] at h
      simp only [r2, wgx] at h
      unfold wgk at h
      split at h
      · rename_i hk
        obtain ⟨rfl, hall⟩ := evalOp_calm (kd_pu (T := T) (pr := pr) hk) hv
        exact WG_val hw hall (hP _ _ _ _ h)
      · rename_i hk
        obtain rfl := kd_rd hk hv
        exact WG_rd hw hv h.1 (hP _ _ _ _ h.2)
      · exact WG_evl hw hv h.1 h.2.1 (hP _ _ _ _ h.2.2)
theorem wg_ok : ∀ (l : List AI) (m : Nat) (e : Env) (σ : St) (fs : Fs) (ls : Ls), wg T pr deps n kill k Q m l e σ fs ls → WG T pr deps n m l e σ fs ls fun e1 σ1 => W T pr k (e1.del kill) σ1 Q
  | [], m, e, σ, fs, ls, h => WG_nil h
  | i :: l, m, e, σ, fs, ls, h => by
    unfold wg at h
    unfold wgd at h
    split at h
    · rename_i hg
      refine wgx_ok (fun e σ fs ls => wg_ok l (m + 1) e σ fs ls) ?_ h
      simp only [Option.map_eq_none_iff] at hg
      unfold wantedB
      rw [hg]
    · rename_i b hg
      obtain ⟨p, hp, hb⟩ := Option.map_eq_some_iff.1 hg
      split at h
      · rename_i hbw
        refine wgx_ok (fun e σ fs ls => wg_ok l (m + 1) e σ fs ls) ?_ h
        unfold wantedB
        obtain ⟨t, w⟩ := p
        rw [hp] at hbw ⊢
        simp only at hb
        simp only [hb]
        simp at hbw
        simp [hbw]
      · rename_i hbw
        refine WG_any (fun s => .off ?_) (wg_ok l (m + 1) _ _ _ _ h)
        unfold wantedB
        obtain ⟨t, w⟩ := p
        rw [hp] at hbw ⊢
        simp only at hb
        simp only [hb]
        simp at hbw
        simp [hbw]
    · rename_i hg
      obtain ⟨p, hp, hb⟩ := Option.map_eq_some_iff.1 hg
      refine WG_any (fun s => .off ?_) (wg_ok l (m + 1) _ _ _ _ h)
      unfold wantedB
      obtain ⟨t, w⟩ := p
      rw [hp]
      simp only at hb
      simp only [hb]
    · exact h.elim
theorem w_drw {ops : List AI} (hst : statP deps ops = true) (h : wg T pr deps ops.length kill k Q 0 ops e σ [] []) : W T pr (.c (.drw kill deps ops) :: k) e σ Q :=
  W_drwG hst fun _ hK => by
    obtain ⟨e', σ', h, q⟩ := wg_ok _ _ _ _ _ _ h
    exact ⟨e', σ', h, hK _ _ q⟩
variable {m : Nat} {l : List AI} {fs : Fs} {ls : Ls} {K : Env → St → Fs → Ls → Prop}
theorem wg_nil : wg T pr deps n kill k Q m [] e σ fs ls = WE T pr (e.del kill) k σ Q := hide rfl
theorem wg_o (d : Nat) (op : AO) : wg T pr deps n kill k Q m (o d op :: l) e σ fs ls = wgx T pr deps n m (o d op) (evalX op e σ) e σ fs ls (wg T pr deps n kill k Q (m + 1) l) := hide rfl
theorem wg_on (op : AO) : wg T pr deps n kill k Q m (on op :: l) e σ fs ls = wgx T pr deps n m (on op) (evalX op e σ) e σ fs ls (wg T pr deps n kill k Q (m + 1) l) := hide rfl
theorem wg_og (d : Nat) (op : AO) (t : Nat) (w : Bool) : wg T pr deps n kill k Q m (og d op t w :: l) e σ fs ls = wgd T pr deps n m (og d op t w) (some (e.get t)) w e σ fs ls (wg T pr deps n kill k Q (m + 1) l) := hide rfl
theorem wg_oh (op : AO) (t : Nat) (w : Bool) : wg T pr deps n kill k Q m (oh op t w :: l) e σ fs ls = wgd T pr deps n m (oh op t w) (some (e.get t)) w e σ fs ls (wg T pr deps n kill k Q (m + 1) l) := hide rfl
theorem wgx_o (d : Nat) (op : AO) (v : V) (σ1 : St) : wgx T pr deps n m (o d op) (.val v σ1) e σ fs ls K = wgk deps n m (o d op) (kd op) v σ1 e σ fs ls K := hide rfl
theorem wgx_on (op : AO) (v : V) (σ1 : St) : wgx T pr deps n m (on op) (.val v σ1) e σ fs ls K = wgk deps n m (on op) (kd op) v σ1 e σ fs ls K := hide rfl
theorem wgx_og (d : Nat) (op : AO) (t : Nat) (w : Bool) (v : V) (σ1 : St) : wgx T pr deps n m (og d op t w) (.val v σ1) e σ fs ls K = wgk deps n m (og d op t w) (kd op) v σ1 e σ fs ls K := hide rfl
theorem wgx_oh (op : AO) (t : Nat) (w : Bool) (v : V) (σ1 : St) : wgx T pr deps n m (oh op t w) (.val v σ1) e σ fs ls K = wgk deps n m (oh op t w) (kd op) v σ1 e σ fs ls K := hide rfl
theorem wgd_tt (d : Nat) (op : AO) (t : Nat) : wgd T pr deps n m (og d op t true) (some (.bool true)) true e σ fs ls K = wgx T pr deps n m (og d op t true) (evalX op e σ) e σ fs ls K := hide rfl
theorem wgd_ff (d : Nat) (op : AO) (t : Nat) : wgd T pr deps n m (og d op t false) (some (.bool false)) false e σ fs ls K = wgx T pr deps n m (og d op t false) (evalX op e σ) e σ fs ls K := hide rfl
theorem wgd_tf (d : Nat) (op : AO) (t : Nat) : wgd T pr deps n m (og d op t false) (some (.bool true)) false e σ fs ls K = K (e.put d .skp) σ fs ls := hide rfl
theorem wgd_ft (d : Nat) (op : AO) (t : Nat) : wgd T pr deps n m (og d op t true) (some (.bool false)) true e σ fs ls K = K (e.put d .skp) σ fs ls := hide rfl
theorem wgd_s (d : Nat) (op : AO) (t : Nat) (w : Bool) : wgd T pr deps n m (og d op t w) (some .skp) w e σ fs ls K = K (e.put d .skp) σ fs ls := hide rfl
theorem whd_tt (op : AO) (t : Nat) : wgd T pr deps n m (oh op t true) (some (.bool true)) true e σ fs ls K = wgx T pr deps n m (oh op t true) (evalX op e σ) e σ fs ls K := hide rfl
theorem whd_ff (op : AO) (t : Nat) : wgd T pr deps n m (oh op t false) (some (.bool false)) false e σ fs ls K = wgx T pr deps n m (oh op t false) (evalX op e σ) e σ fs ls K := hide rfl
theorem whd_tf (op : AO) (t : Nat) : wgd T pr deps n m (oh op t false) (some (.bool true)) false e σ fs ls K = K e σ fs ls := hide rfl
theorem whd_ft (op : AO) (t : Nat) : wgd T pr deps n m (oh op t true) (some (.bool false)) true e σ fs ls K = K e σ fs ls := hide rfl
theorem whd_s (op : AO) (t : Nat) (w : Bool) : wgd T pr deps n m (oh op t w) (some .skp) w e σ fs ls K = K e σ fs ls := hide rfl
theorem wgd_if {b w : Bool} {i : AI} (h1 : b = w → wgx T pr deps n m i (evalX i.op e σ) e σ fs ls K) (h2 : b = !w → K (e.putO i.dst .skp) σ fs ls) : wgd T pr deps n m i (some (.bool b)) w e σ fs ls K := by
  unfold wgd
  simp only
  split
  · rename_i h; exact h1 h
  · rename_i h; exact h2 (by cases b <;> cases w <;> simp at h ⊢)
theorem wgk_pu {i : AI} (v : V) (σ1 : St) : wgk deps n m i .pu v σ1 e σ fs ls K = K (e.putO i.dst v) σ fs ls := hide rfl
theorem wgk_rd {i : AI} (v : V) (σ1 : St) : wgk deps n m i .rd v σ1 e σ [] ls K = K (e.putO i.dst v) σ [] ((m, fun s => evalOp i.op e s = some (v, s)) :: ls) := propext ⟨fun h => h.2, fun h => ⟨trivial, h⟩⟩
theorem wgk_ef {i : AI} (v : V) (σ1 : St) : wgk deps n m i .ef v σ1 e σ [] [] K = K (e.putO i.dst v) σ1 [(m, σ, σ1)] [] := propext ⟨fun h => h.2.2, fun h => ⟨trivial, trivial, h⟩⟩
theorem wgk_rd' {i : AI} {v : V} {σ1 : St} (h1 : chF deps n m (fun s => evalOp i.op e s = some (v, s)) fs) (h : K (e.putO i.dst v) σ fs ((m, fun s => evalOp i.op e s = some (v, s)) :: ls)) : wgk deps n m i .rd v σ1 e σ fs ls K := ⟨h1, h⟩
theorem wgk_ef' {i : AI} {v : V} {σ1 : St} (h1 : chB deps n m fs) (h2 : chR deps n m σ σ1 ls) (h : K (e.putO i.dst v) σ1 ((m, σ, σ1) :: fs) ls) : wgk deps n m i .ef v σ1 e σ fs ls K := ⟨h1, h2, h⟩
end
/-! settled values go over as they are -/
def setC : V → Bool
  | .agg cs => cs.all V.rowB
  | .imm _ _ => true
  | v => v.rowB
theorem rowB_refs {v : V} (h : v.rowB = true) : v.refs = [] := by cases v <;> simp [V.rowB] at h <;> rfl
theorem refsL_row : ∀ {cs : List V}, cs.all V.rowB = true → refsL cs = []
  | [], _ => rfl
  | c :: cs, h => by
    simp only [List.all_cons, Bool.and_eq_true] at h
    simp only [refsL, rowB_refs h.1, refsL_row h.2, List.append_nil]
theorem setC_refs {v : V} (h : setC v = true) : v.refs = [] := by
  unfold setC at h
  split at h
  · exact refsL_row h
  · rfl
  · exact rowB_refs h
theorem setL_refs : ∀ {vs : List V}, vs.all setC = true → refsL vs = []
  | [], _ => rfl
  | c :: cs, h => by
    simp only [List.all_cons, Bool.and_eq_true] at h
    simp only [refsL, setC_refs h.1, setL_refs h.2, List.append_nil]
theorem settle_row {σ : St} {js : List Nat} {d : Nat} {v : V} (h : v.rowB = true) : settle σ js (d + 1) v = some v := by
  unfold settle; rw [if_pos h]
theorem mapM_id {f : V → Option V} : ∀ {cs : List V}, (∀ c ∈ cs, f c = some c) → cs.mapM f = some cs
  | [], _ => rfl
  | c :: cs, h => by
    rw [List.mapM_cons, h c List.mem_cons_self, mapM_id fun c hc => h c (List.mem_cons_of_mem _ hc)]
    rfl
theorem settle1_set {σ : St} {js : List Nat} {v : V} (h : setC v = true) : settle1 σ js v = some v := by
  unfold setC at h
  split at h
  · rename_i cs
    simp only [settle1]
    rw [mapM_id fun c hc => settle_row (List.all_eq_true.1 h c hc)]
    rfl
  · rfl
  · rename_i h1 h2
    unfold settle1
    split
    · exact absurd rfl (h2 _ _)
    · exact absurd rfl (h1 _)
    · exact settle_row h
theorem over_set {σ : St} {vs : List V} (h : vs.all setC = true) : over σ vs = some vs := mapM_id fun c hc => settle1_set (List.all_eq_true.1 h c hc)
section
variable {Q : Env → St → Prop} {e : Env} {σ : St} {k : List It} {l : List AI} {kill : List Nat} {f : Nat} {vs : List V} {v : V} {d : Option Nat}
theorem wx_fn (hf : Fn T pr f vs v) (hs : vs.all setC = true) (h : WR T pr l kill k (e.putO d v) σ Q) : WX T pr (.call f vs) d l kill k e σ Q :=
  wx_call (.pure (over_set hs) hf) (by rw [after_nil (setL_refs hs)]; exact h)
theorem wx_pr {s : List V → Option V} (hp : pr f = some s) (hs : vs.all setC = true) (hv : s vs = some v) (h : WR T pr l kill k (e.putO d v) σ Q) : WX T pr (.call f vs) d l kill k e σ Q :=
  wx_call (.prim hp (over_set hs) hv) (by rw [after_nil (setL_refs hs)]; exact h)
theorem wx_th {σ1 : St} (hf : Th T pr f vs σ v σ1) (h : WR T pr l kill k (e.putO d v) σ1 Q) : WX T pr (.call f vs) d l kill k e σ Q := wx_call (.thr hf) h
variable {deps : List (List Nat)} {n m : Nat} {fs : Fs} {ls : Ls} {K : Env → St → Fs → Ls → Prop} {i : AI}
theorem wgx_fn (hf : Fn T pr f vs v) (hs : vs.all setC = true) (h : K (e.putO i.dst v) σ fs ls) : wgx T pr deps n m i (.call f vs) e σ fs ls K := .inl ⟨v, vs, setL_refs hs, over_set hs, .inr hf, h⟩
theorem wgx_pr {s : List V → Option V} (hp : pr f = some s) (hs : vs.all setC = true) (hv : s vs = some v) (h : K (e.putO i.dst v) σ fs ls) : wgx T pr deps n m i (.call f vs) e σ fs ls K := .inl ⟨v, vs, setL_refs hs, over_set hs, .inl ⟨s, hp, hv⟩, h⟩
theorem wgx_th {σ1 : St} (hf : Th T pr f vs σ v σ1) (h1 : chB deps n m fs) (h2 : chR deps n m σ σ1 ls) (h : K (e.putO i.dst v) σ1 ((m, σ, σ1) :: fs) ls) : wgx T pr deps n m i (.call f vs) e σ fs ls K := .inr (.inr ⟨v, σ1, .thr hf, h1, h2, h⟩)
end
/-! ends -/
def FR (v0 : V) (σ1 : St) (v : V) : Prop := (okRes v0 = true ∧ v0.refs = [] ∧ back [] v0 = some v) ∨ ∃ js, leaveSome 0 js v0 σ1 = true ∧ back ((js.filterMap (σ1[·]?)).map (Ob.ren (ren 0 js))) (v0.ren (ren 0 js)) = some v
def FL (o : Option V) (σ1 : St) (v : V) : Prop := ∃ v0, o = some v0 ∧ FR v0 σ1 v
def FQ (res : List AR) (v : V) (e : Env) (σ : St) : Prop := FL (resV e σ res) σ v
theorem Fn_go {f p : Nat} {res : List AR} {body : AC} {vs : List V} {v : V} (hT : T f = some ⟨p, res, false, body, none⟩) (hl : vs.length = p) (h : W T pr [.c body] (parEnv 0 vs) [] (FQ res v)) : Fn T pr f vs v := by
  obtain ⟨e', σ', hE, v0, hr, h1 | ⟨js, h1, h2⟩⟩ := h
  · exact Fn_intro hT rfl rfl hl ⟨e', σ', hE, v0, hr, h1⟩
  · exact FnL_intro hT rfl rfl hl ⟨e', σ', hE, v0, js, hr, h1, h2⟩
theorem fq_1 (r : AR) (v : V) (e : Env) (σ : St) : FQ [r] v e σ = FL (resOne e σ r) σ v := hide rfl
theorem fq_2 (r s : AR) (v : V) (e : Env) (σ : St) : FQ [r, s] v e σ = FL ((resOne e σ r).bind fun a => (resOne e σ s).map fun b => .tup [a, b]) σ v := by
  simp only [FQ, resV, List.mapM_cons, List.mapM_nil]
  cases resOne e σ r with
  | none => rfl
  | some a => cases resOne e σ s <;> rfl
theorem fq_3 (r s t : AR) (v : V) (e : Env) (σ : St) : FQ [r, s, t] v e σ = FL ((resOne e σ r).bind fun a => (resOne e σ s).bind fun b => (resOne e σ t).map fun c => .tup [a, b, c]) σ v := by
  simp only [FQ, resV, List.mapM_cons, List.mapM_nil]
  cases resOne e σ r with
  | none => rfl
  | some a =>
    cases resOne e σ s with
    | none => rfl
    | some b => cases resOne e σ t <;> rfl
theorem fl_some (v0 v : V) (σ : St) : FL (some v0) σ v = FR v0 σ v := propext ⟨fun ⟨_, h, q⟩ => by cases h; exact q, fun h => ⟨_, rfl, h⟩⟩
theorem setC_ok {v : V} (h : setC v = true) : okRes1 v = true := by
  unfold setC at h
  split at h
  · rename_i cs
    simp only [okRes1]
    rw [List.all_eq_true] at h ⊢
    intro c hc
    have := h c hc
    cases c <;> simp [V.rowB] at this <;> rfl
  · rfl
  · cases v <;> simp [V.rowB] at h <;> rfl
theorem fr_set {v : V} {σ : St} (h : setC v = true) : FR v σ v := by
  refine .inl ⟨?_, setC_refs h, ?_⟩
  · cases v with
    | tup vs => simp [setC, V.rowB] at h
    | _ => exact setC_ok h
  · unfold back settleV
    split
    · simp [setC, V.rowB] at h
    · exact settle1_set h
theorem fr_tup {vs : List V} {σ : St} (h : vs.all setC = true) : FR (.tup vs) σ (.tup vs) := by
  refine .inl ⟨?_, setL_refs h, ?_⟩
  · simp only [okRes]
    rw [List.all_eq_true] at h ⊢
    exact fun c hc => setC_ok (h c hc)
  · simp only [back, settleV]
    rw [mapM_id fun c hc => settle1_set (List.all_eq_true.1 h c hc)]
    rfl
theorem fr_eq {v v' : V} {σ : St} (h : setC v = true) (he : v = v') : FR v σ v' := he ▸ fr_set h
/-- the end of a threaded function -/
def TQ (res : List AR) (σ : St) (v : V) (σ' : St) (e : Env) (σ1 : St) : Prop := resV e σ1 res = some v ∧ Left σ.length σ v σ1 ∧ σ' = σ1.take σ.length
theorem Th_go {f p : Nat} {res : List AR} {body : AC} {vs : List V} {v : V} {σ σ' : St} (hT : T f = some ⟨p, res, true, body, none⟩) (hl : vs.length = p) (h : W T pr [.c body] (parEnv 0 vs) σ (TQ res σ v σ')) : Th T pr f vs σ v σ' := Th_intro hT rfl rfl hl h
theorem w_rep {keep : List Nat} {c c' : AC} {k : List It} {e : Env} {σ : St} {Q : Env → St → Prop} (hc : c = c') (h : WE T pr (e.keep keep) (.c c' :: .l keep c :: k) σ Q) : W T pr (.l keep c :: k) e σ Q := by
  subst hc
  rw [w_again]
  exact h
section
variable {deps : List (List Nat)} {n m : Nat} {e : Env} {σ : St} {fs : Fs} {ls : Ls} {K : Env → St → Fs → Ls → Prop} {i : AI}
@[congr] theorem wgx_congr {r r' : Rs} (h : r = r') : wgx T pr deps n m i r e σ fs ls K = wgx T pr deps n m i r' e σ fs ls K := by rw [h]
@[congr] theorem wgd_congr {g g' : Option V} {w : Bool} (h : g = g') : wgd T pr deps n m i g w e σ fs ls K = wgd T pr deps n m i g' w e σ fs ls K := by rw [h]
@[congr] theorem wgk_congr {z z' : Kd} {v : V} {σ1 : St} (h : z = z') : wgk deps n m i z v σ1 e σ fs ls K = wgk deps n m i z' v σ1 e σ fs ls K := by rw [h]
end
end Go.Proofs.YticpkkjnajmpoaaGreatDoor.KM
