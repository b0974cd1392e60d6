/- Rules by which a region with a drawn order is walked, in general. -/
import Derived.Test.YticpkkjnajmpoaaGreatDoorOb
import Derived.IntWalk
set_option linter.all false
namespace Go.Proofs.YticpkkjnajmpoaaGreatDoor.KM
open Go
variable {T : Nat → Option AF} {pr : Nat → Option (List V → Option V)}
abbrev Fs := List (Nat × St × St)
abbrev Ls := List (Nat × (St → Prop))
def WG (T : Nat → Option AF) (pr : Nat → Option (List V → Option V)) (deps : List (List Nat)) (n k : Nat) (l : List AI) (e : Env) (σ : St) (fs : Fs) (ls : Ls) (Q : Env → St → Prop) : Prop := ∃ e' σ', TG T pr deps n k l e σ fs ls e' σ' ∧ Q e' σ'
/-- a read does not mind the effects that have been -/
def chF (deps : List (List Nat)) (n k : Nat) (R : St → Prop) : Fs → Prop
  | [] => True
  | (j, s, s1) :: r => (befB deps n k j = true ∨ (R s ∧ R s1)) ∧ chF deps n k R r
/-- an effect comes behind the effects that have been -/
def chB (deps : List (List Nat)) (n k : Nat) : Fs → Prop
  | [] => True
  | (j, _, _) :: r => befB deps n k j = true ∧ chB deps n k r
/-- the reads that have been do not mind an effect -/
def chR (deps : List (List Nat)) (n k : Nat) (σ σ1 : St) : Ls → Prop
  | [] => True
  | (j, R) :: r => (befB deps n k j = true ∨ (R σ ∧ R σ1)) ∧ chR deps n k σ σ1 r
theorem chF_mem {deps : List (List Nat)} {n k : Nat} {R : St → Prop} : ∀ {fs : Fs}, chF deps n k R fs → ∀ j s s1, (j, s, s1) ∈ fs → befB deps n k j = true ∨ (R s1 ↔ R s)
  | [], _, _, _, _, h => by cases h
  | _ :: _, h, j, s, s1, hm => by
    rcases List.mem_cons.1 hm with rfl | hm
    · exact h.1.imp id fun h => ⟨fun _ => h.1, fun _ => h.2⟩
    · exact chF_mem h.2 j s s1 hm
theorem chB_mem {deps : List (List Nat)} {n k : Nat} : ∀ {fs : Fs}, chB deps n k fs → ∀ j s s1, (j, s, s1) ∈ fs → befB deps n k j = true
  | [], _, _, _, _, h => by cases h
  | _ :: _, h, j, s, s1, hm => by
    rcases List.mem_cons.1 hm with rfl | hm
    · exact h.1
    · exact chB_mem h.2 j s s1 hm
theorem chR_mem {deps : List (List Nat)} {n k : Nat} {σ σ1 : St} : ∀ {ls : Ls}, chR deps n k σ σ1 ls → ∀ j R, (j, R) ∈ ls → befB deps n k j = true ∨ (R σ1 ↔ R σ)
  | [], _, _, _, h => by cases h
  | _ :: _, h, j, R, hm => by
    rcases List.mem_cons.1 hm with rfl | hm
    · exact h.1.imp id fun h => ⟨fun _ => h.1, fun _ => h.2⟩
    · exact chR_mem h.2 j R hm

section
variable {Q : Env → St → Prop} {e : Env} {σ : St} {k : List It}
theorem W_drwG {kill : List Nat} {deps : List (List Nat)} {ops : List AI} (hst : statP deps ops = true) (h : ∀ K : Env → St → Prop, (∀ e1 σ1, W T pr k (e1.del kill) σ1 Q → K e1 σ1) → WG T pr deps ops.length 0 ops e σ [] [] K) : W T pr (.c (.drw kill deps ops) :: k) e σ Q := by
  obtain ⟨e1, σ1, hT, e', σ', h2, q⟩ := h _ fun _ _ h => h
  obtain ⟨E2, g1, g2⟩ := draw2_ok hst hT
  exact ⟨e', σ', .cDrw E2 g1 g2 h2, q⟩
variable {deps : List (List Nat)} {n m : Nat} {l : List AI} {fs : Fs} {ls : Ls}
theorem WG_nil (q : Q e σ) : WG T pr deps n m [] e σ fs ls Q := ⟨e, σ, .nil, q⟩
theorem WG_any {i : AI} {v : V} (hs : ∀ s, Sg T pr i e s v s) (h : WG T pr deps n (m + 1) l (e.putO i.dst v) σ fs ls Q) : WG T pr deps n m (i :: l) e σ fs ls Q := by
  obtain ⟨e', σ', h, q⟩ := h
  refine ⟨e', σ', .read (fun _ => True) trivial (fun s _ => hs s) (fun _ _ _ _ => .inr Iff.rfl) ?_, q⟩
  -- what is asked of the state there is nothing
  have more : ∀ {k : Nat} {l : List AI} {e e' : Env} {σ σ' : St} {fs : Fs} {ls : Ls}, TG T pr deps n k l e σ fs ls e' σ' → ∀ ls', (∀ j R, (j, R) ∈ ls' → (∀ s, R s) ∨ (j, R) ∈ ls) → TG T pr deps n k l e σ fs ls' e' σ' := by
    intro k l e e' σ σ' fs ls h
    induction h with
    | nil => exact fun _ _ => .nil
    | read R h1 h2 h3 _ ih =>
      exact fun ls' hl => .read R h1 h2 h3 (ih _ fun j R' hm => by
        rcases List.mem_cons.1 hm with hm | hm
        · exact .inr (by rw [hm]; exact List.mem_cons_self)
        · exact (hl j R' hm).imp id fun h => List.mem_cons_of_mem _ h)
    | eff h1 h2 h3 _ ih =>
      exact fun ls' hl => .eff h1 h2 (fun j R hm => by
        rcases hl j R hm with h | h
        · exact .inr ⟨fun _ => h _, fun _ => h _⟩
        · exact h3 j R h) (ih _ hl)
  exact more h _ fun j R hm => by
    rcases List.mem_cons.1 hm with hm | hm
    · cases hm; exact .inl fun _ => trivial
    · exact .inr hm
theorem WG_off {d : Option Nat} {op : AO} {g : Nat × Bool} (hg : wantedB e ⟨d, op, some g⟩ = some false) (h : WG T pr deps n (m + 1) l (e.putO d .skp) σ fs ls Q) : WG T pr deps n m (⟨d, op, some g⟩ :: l) e σ fs ls Q := WG_any (i := ⟨d, op, some g⟩) (fun _ => .off hg) h
/-- whatever the state -/
theorem WG_val {i : AI} {v : V} (hg : wantedB e i = some true) (hv : ∀ s, evalOp i.op e s = some (v, s)) (h : WG T pr deps n (m + 1) l (e.putO i.dst v) σ fs ls Q) : WG T pr deps n m (i :: l) e σ fs ls Q := WG_any (fun s => .val hg (hv s)) h
/-- a read -/
theorem WG_rd {i : AI} {v : V} (hg : wantedB e i = some true) (hv : evalOp i.op e σ = some (v, σ)) (hc : chF deps n m (fun s => evalOp i.op e s = some (v, s)) fs) (h : WG T pr deps n (m + 1) l (e.putO i.dst v) σ fs ((m, fun s => evalOp i.op e s = some (v, s)) :: ls) Q) : WG T pr deps n m (i :: l) e σ fs ls Q := by
  obtain ⟨e', σ', h, q⟩ := h
  exact ⟨e', σ', .read (fun s => evalOp i.op e s = some (v, s)) hv (fun s hs => .val hg hs) (chF_mem hc) h, q⟩
/-- a pure function that hands back no more than numbers, strings and bools -/
theorem WG_pure {i : AI} {f : Nat} {args vs : List V} {v : V} (hg : wantedB e i = some true) (hc : calleeOf e i.op = some (f, args)) (hx : over σ args = some vs) (hf : Fn T pr f vs v) (hfl : v.flatV = true) (hch : chF deps n m (fun s => over s args = some vs) fs)
    (h : WG T pr deps n (m + 1) l (e.putO i.dst v) σ fs ((m, fun s => over s args = some vs) :: ls) Q) : WG T pr deps n m (i :: l) e σ fs ls Q := by
  obtain ⟨e', σ', h, q⟩ := h
  refine ⟨e', σ', .read (fun s => over s args = some vs) hx (fun s hs => ?_) (chF_mem hch) h, q⟩
  have := Sg.pure (T := T) (pr := pr) hg hc hs hf
  unfold after at this
  rw [if_pos hfl] at this
  exact this
theorem WG_prim {i : AI} {f : Nat} {args vs : List V} {v : V} {s : List V → Option V} (hg : wantedB e i = some true) (hc : calleeOf e i.op = some (f, args)) (hp : pr f = some s) (hx : over σ args = some vs) (hs : s vs = some v) (hfl : v.flatV = true) (hch : chF deps n m (fun s => over s args = some vs) fs)
    (h : WG T pr deps n (m + 1) l (e.putO i.dst v) σ fs ((m, fun s => over s args = some vs) :: ls) Q) : WG T pr deps n m (i :: l) e σ fs ls Q := by
  obtain ⟨e', σ', h, q⟩ := h
  refine ⟨e', σ', .read (fun s => over s args = some vs) hx (fun s' hs' => ?_) (chF_mem hch) h, q⟩
  have := Sg.prim (T := T) (pr := pr) hg hc hp hs' hs
  unfold after at this
  rw [if_pos hfl] at this
  exact this
/-- a pure function that takes no objects -/
theorem WG_pure0 {i : AI} {f : Nat} {args vs : List V} {v : V} (hg : wantedB e i = some true) (hc : calleeOf e i.op = some (f, args)) (hn : refsL args = []) (hx : over σ args = some vs) (hf : Fn T pr f vs v)
    (h : WG T pr deps n (m + 1) l (e.putO i.dst v) σ fs ls Q) : WG T pr deps n m (i :: l) e σ fs ls Q :=
  WG_any (fun s => by
    have := Sg.pure (T := T) (pr := pr) (σ := s) hg hc ((over_nil hn s).trans hx) hf
    rw [after_nil hn] at this
    exact this) h
theorem WG_prim0 {i : AI} {f : Nat} {args vs : List V} {v : V} {s : List V → Option V} (hg : wantedB e i = some true) (hc : calleeOf e i.op = some (f, args)) (hp : pr f = some s) (hn : refsL args = []) (hx : over σ args = some vs) (hs : s vs = some v)
    (h : WG T pr deps n (m + 1) l (e.putO i.dst v) σ fs ls Q) : WG T pr deps n m (i :: l) e σ fs ls Q :=
  WG_any (fun s' => by
    have := Sg.prim (T := T) (pr := pr) (σ := s') hg hc hp ((over_nil hn s').trans hx) hs
    rw [after_nil hn] at this
    exact this) h
/-- an effect -/
theorem WG_eff {i : AI} {v : V} {σ1 : St} (hs : Sg T pr i e σ v σ1) (h1 : chB deps n m fs) (h2 : chR deps n m σ σ1 ls) (h : WG T pr deps n (m + 1) l (e.putO i.dst v) σ1 ((m, σ, σ1) :: fs) ls Q) : WG T pr deps n m (i :: l) e σ fs ls Q := by
  obtain ⟨e', σ', h, q⟩ := h
  exact ⟨e', σ', .eff hs (chB_mem h1) (chR_mem h2) h, q⟩
theorem WG_evl {i : AI} {v : V} {σ1 : St} (hg : wantedB e i = some true) (hv : evalOp i.op e σ = some (v, σ1)) (h1 : chB deps n m fs) (h2 : chR deps n m σ σ1 ls) (h : WG T pr deps n (m + 1) l (e.putO i.dst v) σ1 ((m, σ, σ1) :: fs) ls Q) : WG T pr deps n m (i :: l) e σ fs ls Q := WG_eff (.val hg hv) h1 h2 h
theorem WG_thr {i : AI} {f : Nat} {args : List V} {σ1 : St} {v : V} (hg : wantedB e i = some true) (hc : calleeOf e i.op = some (f, args)) (hf : Th T pr f args σ v σ1) (h1 : chB deps n m fs) (h2 : chR deps n m σ σ1 ls) (h : WG T pr deps n (m + 1) l (e.putO i.dst v) σ1 ((m, σ, σ1) :: fs) ls Q) : WG T pr deps n m (i :: l) e σ fs ls Q :=
  let ⟨_, hT, ht, hsp, hE⟩ := hf
  WG_eff (.thr hg hc hT ht hsp hE) h1 h2 h
end
/-- a flat result in a slot -/
theorem fin1 {e : Env} {σ : St} {t : Nat} {v : V} (hg : e.get t = v) (hb : v.rowB = true) : ∃ v0, resV e σ [.tmp t] = some v0 ∧ okRes v0 = true ∧ v0.refs = [] ∧ back [] v0 = some v := by
  subst hg
  refine ⟨_, rfl, ?_⟩
  generalize e.get t = v at hb
  cases v <;> simp [V.rowB] at hb <;> simp [okRes, okRes1, V.cellB, V.refs, back, settleV, settle1, settle, V.rowB]
/-- the end of a threaded function that leaves the objects as they were -/
theorem fin1T {e : Env} {σ J : St} {t : Nat} {v : V} (hg : e.get t = v) (hb : v.rowB = true) : resV e (σ ++ J) [.tmp t] = some v ∧ Left σ.length σ v (σ ++ J) ∧ σ = (σ ++ J).take σ.length := by
  subst hg
  refine ⟨rfl, ⟨?_, ?_, fun i ob hi ho => .inl ?_⟩, by simp⟩
  · generalize e.get t = v at hb
    cases v <;> simp [V.rowB] at hb <;> simp [okRes, okRes1, V.cellB]
  · generalize e.get t = v at hb
    cases v <;> simp [V.rowB] at hb <;> simp [V.refs, within]
  · rwa [List.getElem?_append_left hi] at ho
theorem get_last (s : St) (x : Ob) : (s ++ [x])[s.length]? = some x := by simp
theorem set_last (s : St) (x y : Ob) : (s ++ [x]).set s.length y = s ++ [y] := by simp
theorem get_last2 (s : St) (x y : Ob) : ((s ++ [x]) ++ [y])[s.length]? = some x := by simp
theorem get_last3 (s : St) (x y : Ob) : ((s ++ [x]) ++ [y])[s.length + 1]? = some y := by simp
theorem set_last3 (s : St) (x y z : Ob) : ((s ++ [x]) ++ [y]).set (s.length + 1) z = (s ++ [x]) ++ [z] := by simp [List.set_append]
theorem len_last (s : St) (x : Ob) : (s ++ [x]).length = s.length + 1 := by simp
theorem add_i64 {a b : Int} (h : -9223372036854775808 ≤ a + b ∧ a + b ≤ 9223372036854775807) : IntKind.i64.wrap (a + b) = a + b := Go.IntWalk.i64_in _ h
theorem sub_i64 {a b : Int} (h : -9223372036854775808 ≤ a - b ∧ a - b ≤ 9223372036854775807) : IntKind.i64.wrap (a - b) = a - b := Go.IntWalk.i64_in _ h
section
variable {Q : Env → St → Prop} {e : Env} {σ : St} {k : List It} {l : List AI}
theorem evA {x y : S} {a b : Int} (hx : src e x = .int .i64 a) (hy : src e y = .int .i64 b) (hr : -9223372036854775808 ≤ a + b ∧ a + b ≤ 9223372036854775807) (s : St) : evalOp (.bin .add x y) e s = some (.int .i64 (a + b), s) := by
  simp only [evalOp, hx, hy, binV, binI, if_true, Option.map_some, add_i64 hr]
theorem evS {x y : S} {a b : Int} (hx : src e x = .int .i64 a) (hy : src e y = .int .i64 b) (hr : -9223372036854775808 ≤ a - b ∧ a - b ≤ 9223372036854775807) (s : St) : evalOp (.bin .sub x y) e s = some (.int .i64 (a - b), s) := by
  simp only [evalOp, hx, hy, binV, binI, if_true, Option.map_some, sub_i64 hr]
theorem WO_addi {d : Option Nat} {x y : S} {a b : Int} (hx : src e x = .int .i64 a) (hy : src e y = .int .i64 b) (hr : -9223372036854775808 ≤ a + b ∧ a + b ≤ 9223372036854775807) (h : WO T pr l (e.putO d (.int .i64 (a + b))) σ Q) : WO T pr (⟨d, .bin .add x y, none⟩ :: l) e σ Q := WO_val (evA hx hy hr σ) h
theorem WO_subi {d : Option Nat} {x y : S} {a b : Int} (hx : src e x = .int .i64 a) (hy : src e y = .int .i64 b) (hr : -9223372036854775808 ≤ a - b ∧ a - b ≤ 9223372036854775807) (h : WO T pr l (e.putO d (.int .i64 (a - b))) σ Q) : WO T pr (⟨d, .bin .sub x y, none⟩ :: l) e σ Q := WO_val (evS hx hy hr σ) h
end
theorem after_int (σ : St) (args : List V) (k : IntKind) (n : Int) : after σ args (.int k n) = σ := rfl
theorem after_bool (σ : St) (args : List V) (b : Bool) : after σ args (.bool b) = σ := rfl
theorem after_str (σ : St) (args : List V) (l : List UInt8) : after σ args (.str l) = σ := rfl
/-- a loop looks at the slots that it keeps alone -/
theorem W_keep {Q : Env → St → Prop} {e e' : Env} {σ : St} {k : List It} {keep : List Nat} {c : AC} (h : W T pr (.l keep c :: k) e' σ Q) (hk : e.keep keep = e'.keep keep) : W T pr (.l keep c :: k) e σ Q := by
  obtain ⟨e1, σ1, h, q⟩ := h
  cases h with
  | cAgain h => exact ⟨e1, σ1, .cAgain (hk ▸ h), q⟩
theorem cB_int (k : IntKind) (n : Int) : V.cellB (.int k n) = true := rfl
theorem rB_int (k : IntKind) (n : Int) : V.rowB (.int k n) = true := rfl
theorem cB_str (l : List UInt8) : V.cellB (.str l) = true := rfl
theorem rB_str (l : List UInt8) : V.rowB (.str l) = true := rfl
theorem cB_bool (b : Bool) : V.cellB (.bool b) = true := rfl
theorem rB_bool (b : Bool) : V.rowB (.bool b) = true := rfl
theorem cB_nils  : V.cellB V.nils = true := rfl
theorem rB_nils  : V.rowB V.nils = true := rfl
theorem cB_nili  : V.cellB V.nili = true := rfl
theorem rB_nili  : V.rowB V.nili = true := rfl
theorem cB_lst (t : Nat) (xs : List (List V)) : V.cellB (.lst t xs) = true := rfl
theorem rB_lst (t : Nat) (xs : List (List V)) : V.rowB (.lst t xs) = true := rfl
theorem cB_ptr (i g o : Nat) : V.cellB (.ptr i g o) = true := rfl
theorem rB_ptr (i g o : Nat) : V.rowB (.ptr i g o) = false := rfl
theorem cB_sl (i g o l m : Nat) (w : Bool) : V.cellB (.sl i g o l m w) = true := rfl
theorem rB_sl (i g o l m : Nat) (w : Bool) : V.rowB (.sl i g o l m w) = false := rfl
theorem cB_nilp  : V.cellB V.nilp = true := rfl
theorem rB_nilp  : V.rowB V.nilp = false := rfl
theorem cB_nilf  : V.cellB V.nilf = true := rfl
theorem rB_nilf  : V.rowB V.nilf = false := rfl
theorem cB_ifc  : V.cellB V.ifc = true := rfl
theorem rB_ifc  : V.rowB V.ifc = false := rfl
theorem cB_imm (r : List V) (o : Nat) : V.cellB (.imm r o) = true := rfl
theorem rB_imm (r : List V) (o : Nat) : V.rowB (.imm r o) = false := rfl
theorem cB_fn (f : Nat) (a c : List V) : V.cellB (.fn f a c) = true := rfl
theorem rB_fn (f : Nat) (a c : List V) : V.rowB (.fn f a c) = false := rfl
theorem cB_mp (i : Nat) : V.cellB (.mp i) = true := rfl
theorem rB_mp (i : Nat) : V.rowB (.mp i) = false := rfl
end Go.Proofs.YticpkkjnajmpoaaGreatDoor.KM
