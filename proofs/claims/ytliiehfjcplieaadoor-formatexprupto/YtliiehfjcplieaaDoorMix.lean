/- A region that draws its order: one walk in the order of the text serves every order, where the calls, stores and new blocks stand in one forced order (the links), and every other operation yields one value in every world that meets S; S is shown anew behind each link. -/
import Derived.OrdersHeld
import Derived.Deep.Quiet
namespace Go.Proofs.YtliiehfjcplieaaDoor
open Go
section
variable {P : Program} {ops : Array Oper} {ch : Nat → Bool} {S : World → Prop} {Q : Act → World → Prop}

def QF : Exit → Act → World → Prop := fun _ _ _ => False

/-- the walk over the operations of L, in that order -/
def wpMix (P : Program) (ops : Array Oper) (ch : Nat → Bool) (S : World → Prop) (Q : Act → World → Prop) : List Nat → Act → World → Prop
  | [], a, w => Q a w
  | i :: L, a, w => ∃ o, ops[i]? = some o ∧
      (Region.wanted o (yielded ops a.tmps) = false → wpMix P ops ch S Q L (a.put o.dst undef) w) ∧
      (Region.wanted o (yielded ops a.tmps) = true → ch i = true → o.wp P a w (fun a' w' => S w' ∧ wpMix P ops ch S Q L a' w') QF) ∧
      (Region.wanted o (yielded ops a.tmps) = true → ch i = false → ∃ v, (∀ w, S w → (execOp a.eval o).run P w = .ok (.value v) w) ∧ wpMix P ops ch S Q L (a.put o.dst v) w)

/-- what an operation makes of a frame -/
def FormOf (o : Oper) (a a' : Act) : Prop := ∃ d u, a' = ({ a with defers := d } : Act).put o.dst u

theorem wp_form {o : Oper} {a : Act} {w : World} {K : Act → World → Prop} (h : o.wp P a w K QF) : o.wp P a w (fun a' w' => K a' w' ∧ FormOf o a a') QF := by
  unfold Oper.wp at *
  generalize (execOp a.eval o).run P w = r at *
  cases r with
  | ok n w' =>
    cases n <;> simp only [Oper.upon] at h ⊢
    case value u => exact ⟨h, a.defers, u, rfl⟩
    case skip => exact ⟨h, a.defers, _, rfl⟩
    case defer d => exact ⟨h, d :: a.defers, _, rfl⟩
    case enter f args =>
      refine Calls.mono h fun e w'' he => ?_
      cases e with
      | returned u => exact ⟨he, a.defers, u, rfl⟩
      | panicked c => exact he
      | outgrown => exact he
    case row row args => exact Rows.mono h fun u w'' he => ⟨he, a.defers, u, rfl⟩
  | halt x w' => cases x <;> simp only [Oper.upon] at h ⊢ <;> exact h

/-- it comes to some end -/
theorem wp_some {o : Oper} {a : Act} {w : World} {K : Act → World → Prop} (h : o.wp P a w K QF) : ∃ a' w', K a' w' := by
  unfold Oper.wp at *
  generalize (execOp a.eval o).run P w = r at *
  cases r with
  | ok n w' =>
    cases n <;> simp only [Oper.upon] at h
    case value u => exact ⟨_, _, h⟩
    case skip => exact ⟨_, _, h⟩
    case defer d => exact ⟨_, _, h⟩
    case enter f args =>
      obtain ⟨e, w'', fr, he, _⟩ := h []
      cases e with
      | returned u => exact ⟨_, _, he⟩
      | panicked c => exact he.elim
      | outgrown => obtain ⟨_, _, hq⟩ := he; exact hq.elim
    case row row args =>
      obtain ⟨u, w'', he, _⟩ := h (Frame.enter P 0 #[] .normal) []
      exact ⟨_, _, he⟩
  | halt x w' =>
    cases x <;> simp only [Oper.upon] at h
    case panic v => exact h.elim

theorem wp_QF {o : Oper} {a : Act} {w : World} {K : Act → World → Prop} {Q' : Exit → Act → World → Prop} (h : o.wp P a w K QF) : o.wp P a w K Q' := by
  unfold Oper.wp at *
  generalize (execOp a.eval o).run P w = r at *
  cases r with
  | ok n w' =>
    cases n <;> simp only [Oper.upon] at h ⊢
    case value u => exact h
    case skip => exact h
    case defer d => exact h
    case enter f args =>
      refine Calls.mono h fun e w'' he => ?_
      cases e with
      | returned u => exact he
      | panicked c => exact he.elim
      | outgrown => obtain ⟨_, _, hq⟩ := he; exact hq.elim
    case row row args => exact h
  | halt x w' =>
    cases x <;> simp only [Oper.upon] at h ⊢
    case panic v => exact h.elim

/-- a value laid aside before or behind makes no difference -/
theorem wp_put {oi oj : Oper} {v : Value} {a : Act} {w : World} {K : Act → World → Prop} (hs : ∀ cs b, oj.op ≠ .select cs b)
    (h1 : ∀ d, oi.dst = some d → d ∉ oj.looksAt ops) (h2 : ∀ d, oi.dst = some d → oj.dst ≠ some d) :
    oj.wp P (a.put oi.dst v) w K QF ↔ oj.wp P a w (fun a' w' => K (a'.put oi.dst v) w') QF := by
  unfold Oper.wp
  rw [execOp_put oj hs a oi.dst v h1]
  generalize (execOp a.eval oj).run P w = r
  cases r with
  | ok n w' =>
    cases n <;> simp only [Oper.upon]
    case value u => rw [Act.put_comm a v u h2]
    case skip => rw [Act.put_comm a v undef h2]
    case defer d =>
      have e : (({ (a.put oi.dst v) with defers := d :: (a.put oi.dst v).defers } : Act).put oj.dst undef) = (({ a with defers := d :: a.defers } : Act).put oj.dst undef).put oi.dst v := by
        rw [Act.put_defers, Act.put_comm _ v undef h2]
      rw [e]
    case enter f args =>
      constructor
      · intro h
        refine Calls.mono h fun e w'' he => ?_
        cases e with
        | returned u => show K _ _; rw [← Act.put_comm a v u h2]; exact he
        | panicked c => exact he
        | outgrown => exact he
      · intro h
        refine Calls.mono h fun e w'' he => ?_
        cases e with
        | returned u => show K _ _; rw [Act.put_comm a v u h2]; exact he
        | panicked c => exact he
        | outgrown => exact he
    case row row args =>
      constructor
      · intro h; exact Rows.mono h fun u w'' he => by rw [← Act.put_comm a v u h2]; exact he
      · intro h; exact Rows.mono h fun u w'' he => by rw [Act.put_comm a v u h2]; exact he
  | halt x w' => cases x <;> simp only [Oper.upon] <;> exact Iff.rfl

theorem form_eval {ox oi : Oper} {a a' : Act} (hf : FormOf ox a a') (hs : ∀ cs b, oi.op ≠ .select cs b) (h : ∀ d, ox.dst = some d → d ∉ oi.looksAt ops) :
    execOp a'.eval oi = execOp a.eval oi ∧ Region.wanted oi (yielded ops a'.tmps) = Region.wanted oi (yielded ops a.tmps) := by
  obtain ⟨d, u, rfl⟩ := hf
  have e1 := execOp_put (ops := ops) oi hs ({ a with defers := d } : Act) ox.dst u h
  have e2 := wanted_put (ops := ops) oi ({ a with defers := d } : Act) ox.dst u h
  exact ⟨e1, e2⟩

theorem form_put {ox oi : Oper} {a a' : Act} (hf : FormOf ox a a') (v : Value) (_h : ∀ d, oi.dst = some d → ox.dst ≠ some d) : True := trivial

theorem yields_unique {o : Oper} {v u : Value} {a : Act} {w : World} (hS : S w) (h1 : YieldsIf P ops S o v a) (h2 : YieldsIf P ops S o u a) : v = u := by
  rcases h1 with ⟨a1, b1⟩ | ⟨a1, b1⟩ <;> rcases h2 with ⟨a2, b2⟩ | ⟨a2, b2⟩
  · have := (b1 w hS).symm.trans (b2 w hS)
    injection this with this
    injection this
  · rw [a1] at a2; cases a2
  · rw [a1] at a2; cases a2
  · rw [b1, b2]

/-- the pair may be exchanged -/
def Free (ops : Array Oper) (x i : Nat) : Prop := ∀ ox oi, ops[x]? = some ox → ops[i]? = some oi → oi.apart ops ox = true ∧ ox.apart ops oi = true
def NoSel (ops : Array Oper) : Prop := ∀ (j : Nat) (o : Oper) cs b, ops[j]? = some o → o.op ≠ .select cs b

/-- an operation that is no link comes first -/
theorem bubble (hsel : NoSel ops) {i : Nat} {oi : Oper} (hi : ops[i]? = some oi) (hci : ch i = false) {post : List Nat} :
    ∀ (pre : List Nat) (a : Act) (w : World), (∀ x ∈ pre, Free ops x i) → S w → wpMix P ops ch S Q (pre ++ i :: post) a w →
      ∃ v, YieldsIf P ops S oi v a ∧ wpMix P ops ch S Q (pre ++ post) (a.put oi.dst v) w
  | [], a, w, _, _, h => by
    obtain ⟨o, ho, h1, _, h3⟩ := h
    obtain rfl : oi = o := Option.some.inj (hi.symm.trans ho)
    cases hw : Region.wanted oi (yielded ops a.tmps)
    · exact ⟨undef, .inr ⟨hw, rfl⟩, h1 hw⟩
    · obtain ⟨v, hv, hr⟩ := h3 hw hci
      exact ⟨v, .inl ⟨hw, hv⟩, hr⟩
  | x :: pre, a, w, hf, hS, h => by
    obtain ⟨ox, hox, h1, h2, h3⟩ := h
    obtain ⟨f1, f2⟩ := hf x (by simp) ox oi hox hi
    obtain ⟨p1, p2, p3⟩ := Oper.apart_spec f1
    have sx := hsel x ox
    have si := hsel i oi
    have hf' : ∀ y ∈ pre, Free ops y i := fun y hy => hf y (by simp [hy])
    have back : ∀ (u v : Value), YieldsIf P ops S oi v (a.put ox.dst u) → YieldsIf P ops S oi v a := fun u v hy =>
      hy.of_same (execOp_put oi (fun cs b => si cs b hi) a ox.dst u p3).symm (wanted_put oi a ox.dst u p3).symm
    have wx : ∀ v, Region.wanted ox (yielded ops (a.put oi.dst v).tmps) = Region.wanted ox (yielded ops a.tmps) := fun v => wanted_put ox a oi.dst v p1
    cases hw : Region.wanted ox (yielded ops a.tmps)
    · obtain ⟨v, hy, hr⟩ := bubble hsel hi hci pre _ w hf' hS (h1 hw)
      refine ⟨v, back _ v hy, ox, hox, fun _ => ?_, fun hw' => ?_, fun hw' => ?_⟩
      · rw [Act.put_comm a v undef p2]; exact hr
      · rw [wx, hw] at hw'; cases hw'
      · rw [wx, hw] at hw'; cases hw'
    · cases hc : ch x
      · obtain ⟨u, hu, hr0⟩ := h3 hw hc
        obtain ⟨v, hy, hr⟩ := bubble hsel hi hci pre _ w hf' hS hr0
        refine ⟨v, back _ v hy, ox, hox, fun hw' => ?_, fun _ hc' => ?_, fun _ _ => ⟨u, fun w' hS' => ?_, ?_⟩⟩
        · rw [wx, hw] at hw'; cases hw'
        · rw [hc] at hc'; cases hc'
        · rw [execOp_put ox (fun cs b => sx cs b hox) a oi.dst v p1]; exact hu w' hS'
        · rw [Act.put_comm a v u p2]; exact hr
      · have hwp := wp_form (h2 hw hc)
        have hwp2 : ox.wp P a w (fun a' w' => (S w' ∧ ∃ v, YieldsIf P ops S oi v a' ∧ wpMix P ops ch S Q (pre ++ post) (a'.put oi.dst v) w') ∧ FormOf ox a a') QF :=
          Oper.wp_mono (fun a' w' hh => ⟨⟨hh.1.1, bubble hsel hi hci pre a' w' hf' hh.1.1 hh.1.2⟩, hh.2⟩) hwp
        have same : ∀ a', FormOf ox a a' → ∀ v, YieldsIf P ops S oi v a' → YieldsIf P ops S oi v a := fun a' hfm v hy => by
          obtain ⟨e1, e2⟩ := form_eval (ops := ops) hfm (fun cs b => si cs b hi) p3
          exact hy.of_same e1.symm e2.symm
        obtain ⟨a0, w0, ⟨_, v, hy0, _⟩, hf0⟩ := wp_some hwp2
        have hya := same a0 hf0 v hy0
        refine ⟨v, hya, ox, hox, fun hw' => ?_, fun _ _ => ?_, fun _ hc' => ?_⟩
        · rw [wx, hw] at hw'; cases hw'
        · rw [wp_put (ops := ops) (fun cs b => sx cs b hox) p1 p2]
          refine Oper.wp_mono (fun a' w' hh => ?_) hwp2
          obtain ⟨⟨hS', v', hy', hr'⟩, hfm⟩ := hh
          obtain rfl := yields_unique hS hya (same a' hfm v' hy')
          exact ⟨hS', hr'⟩
        · rw [hc] at hc'; cases hc'

/-- a link comes first, before operations that are no links -/
theorem bubbleLink (hsel : NoSel ops) {i : Nat} {oi : Oper} (hi : ops[i]? = some oi) (hci : ch i = true) {post : List Nat} :
    ∀ (pre : List Nat) (a : Act) (w : World), (∀ x ∈ pre, Free ops x i ∧ ch x = false) → wpMix P ops ch S Q (pre ++ i :: post) a w →
      (Region.wanted oi (yielded ops a.tmps) = true → oi.wp P a w (fun a' w' => S w' ∧ wpMix P ops ch S Q (pre ++ post) a' w') QF) ∧
      (Region.wanted oi (yielded ops a.tmps) = false → wpMix P ops ch S Q (pre ++ post) (a.put oi.dst undef) w)
  | [], a, w, _, h => by
    obtain ⟨o, ho, h1, h2, _⟩ := h
    obtain rfl : oi = o := Option.some.inj (hi.symm.trans ho)
    exact ⟨fun hw => h2 hw hci, fun hw => h1 hw⟩
  | x :: pre, a, w, hf, h => by
    obtain ⟨ox, hox, h1, _, h3⟩ := h
    obtain ⟨f1, f2⟩ := (hf x (by simp)).1 ox oi hox hi
    obtain ⟨p1, p2, p3⟩ := Oper.apart_spec f1
    obtain ⟨r1, r2, r3⟩ := Oper.apart_spec f2
    have hcx := (hf x (by simp)).2
    have sx := hsel x ox
    have si := hsel i oi
    have hf' : ∀ y ∈ pre, Free ops y i ∧ ch y = false := fun y hy => hf y (by simp [hy])
    have wi : ∀ u, Region.wanted oi (yielded ops (a.put ox.dst u).tmps) = Region.wanted oi (yielded ops a.tmps) := fun u => wanted_put oi a ox.dst u p3
    -- what x yields in every state that oi leaves
    have again : ∀ (a' : Act), FormOf oi a a' → execOp a'.eval ox = execOp a.eval ox ∧ Region.wanted ox (yielded ops a'.tmps) = Region.wanted ox (yielded ops a.tmps) :=
      fun a' hfm => form_eval (ops := ops) hfm (fun cs b => sx cs b hox) p1
    cases hw : Region.wanted ox (yielded ops a.tmps)
    · obtain ⟨g1, g2⟩ := bubbleLink hsel hi hci pre _ w hf' (h1 hw)
      refine ⟨fun hwi => ?_, fun hwi => ?_⟩
      · have := g1 (by rw [wi]; exact hwi)
        rw [wp_put (ops := ops) (fun cs b => si cs b hi) r1 r2] at this
        refine Oper.wp_mono (fun a' w' hh => ?_) (wp_form this)
        obtain ⟨⟨hS', hr'⟩, hfm⟩ := hh
        obtain ⟨_, e2⟩ := again a' hfm
        refine ⟨hS', ox, hox, fun _ => hr', fun hw' => ?_, fun hw' => ?_⟩
        · rw [e2, hw] at hw'; cases hw'
        · rw [e2, hw] at hw'; cases hw'
      · have := g2 (by rw [wi]; exact hwi)
        rw [← Act.put_comm a undef undef p2] at this
        have e2 := wanted_put (ops := ops) ox a oi.dst undef p1
        refine ⟨ox, hox, fun _ => this, fun hw' => ?_, fun hw' => ?_⟩
        · rw [e2, hw] at hw'; cases hw'
        · rw [e2, hw] at hw'; cases hw'
    · obtain ⟨u, hu, hr0⟩ := h3 hw hcx
      obtain ⟨g1, g2⟩ := bubbleLink hsel hi hci pre _ w hf' hr0
      refine ⟨fun hwi => ?_, fun hwi => ?_⟩
      · have := g1 (by rw [wi]; exact hwi)
        rw [wp_put (ops := ops) (fun cs b => si cs b hi) r1 r2] at this
        refine Oper.wp_mono (fun a' w' hh => ?_) (wp_form this)
        obtain ⟨⟨hS', hr'⟩, hfm⟩ := hh
        obtain ⟨e1, e2⟩ := again a' hfm
        refine ⟨hS', ox, hox, fun hw' => ?_, fun _ hc' => ?_, fun _ _ => ⟨u, fun w'' hS'' => ?_, hr'⟩⟩
        · rw [e2, hw] at hw'; cases hw'
        · rw [hcx] at hc'; cases hc'
        · rw [e1]; exact hu w'' hS''
      · have := g2 (by rw [wi]; exact hwi)
        rw [← Act.put_comm a undef u p2] at this
        have e1 := execOp_put (ops := ops) ox (fun cs b => sx cs b hox) a oi.dst undef p1
        have e2 := wanted_put (ops := ops) ox a oi.dst undef p1
        refine ⟨ox, hox, fun hw' => ?_, fun _ hc' => ?_, fun _ _ => ⟨u, fun w'' hS'' => ?_, this⟩⟩
        · rw [e2, hw] at hw'; cases hw'
        · rw [hcx] at hc'; cases hc'
        · rw [e1]; exact hu w'' hS''

/-! the check over a region, by the kernel -/
def depsOf (ops : Array Oper) (i : Nat) : List Nat := ((ops[i]?).map fun o => (o.after.toList.filter (Region.binds .any)).map (·.on)).getD []
def reachB (ops : Array Oper) : Nat → Nat → Nat → Bool
  | 0, _, _ => false
  | f + 1, i, x => (depsOf ops i).any fun e => e == x || reachB ops f e x
def apartB (ops : Array Oper) (x i : Nat) : Bool :=
  match ops[x]?, ops[i]? with
  | some ox, some oi => oi.apart ops ox && ox.apart ops oi
  | _, _ => true
def selB (ops : Array Oper) (i : Nat) : Bool :=
  match ops[i]? with
  | some o => (match o.op with | .select _ _ => false | _ => true)
  | none => true
def mixB (ops : Array Oper) (ch : Nat → Bool) : Bool :=
  (List.range ops.size).all fun i => (selB ops i) && (((depsOf ops i).all fun e => decide (e < i)) && (List.range i).all fun x => reachB ops ops.size i x || (apartB ops x i && !(ch x && ch i)))

theorem mem_deps {i : Nat} {o : Oper} (ho : ops[i]? = some o) {x : Nat} : x ∈ depsOf ops i ↔ ∃ e ∈ o.after, Region.binds .any e = true ∧ e.on = x := by
  simp [depsOf, ho, List.mem_map, List.mem_filter, and_assoc]

/-- what has come up, all that it waits for has come up -/
def DC (ops : Array Oper) (listed : Array Bool) : Prop := ∀ j, listed.getD j false = true → ∀ x ∈ depsOf ops j, listed.getD x false = true

theorem reach_listed {listed : Array Bool} (hdc : DC ops listed) : ∀ (f i x : Nat), (∀ y ∈ depsOf ops i, listed.getD y false = true) → reachB ops f i x = true → listed.getD x false = true
  | 0, _, _, _, h => by simp [reachB] at h
  | f + 1, i, x, hd, h => by
    simp only [reachB, List.any_eq_true, Bool.or_eq_true, beq_iff_eq] at h
    obtain ⟨e, he, h⟩ := h
    have hl := hd e he
    rcases h with rfl | h
    · exact hl
    · exact reach_listed hdc f e x (hdc e hl) h

theorem mixB_spec (h : mixB ops ch = true) {i : Nat} (hi : i < ops.size) :
    selB ops i = true ∧ (∀ e ∈ depsOf ops i, e < i) ∧ ∀ x, x < i → reachB ops ops.size i x = true ∨ (apartB ops x i = true ∧ (ch x && ch i) = false) := by
  unfold mixB at h
  rw [List.all_eq_true] at h
  have h' := h i (List.mem_range.2 hi)
  simp only [Bool.and_eq_true, List.all_eq_true, decide_eq_true_eq, List.mem_range, Bool.or_eq_true, Bool.not_eq_true'] at h'
  exact ⟨h'.1, h'.2.1, h'.2.2⟩

theorem getD_true_of {listed : Array Bool} {j : Nat} (h : ¬ listed.getD j false = true) (hj : j < listed.size) : listed.getD j true = false := by
  simp [hj] at h ⊢
  exact h

theorem mix_any {Q' : Exit → Act → World → Prop} (hB : mixB ops ch = true) : ∀ (fuel : Nat) (listed : Array Bool) (L : List Nat) (a : Act) (w : World), listed.size = ops.size → L.Pairwise (· < ·) →
    (∀ j, j ∈ L ↔ j < ops.size ∧ listed.getD j true = false) → DC ops listed → S w → L.length ≤ fuel → wpMix P ops ch S (fun a w => Q' .normal a w) L a w → wpAny P .any ops Q' fuel listed a w := by
  have hsel : NoSel ops := fun j o cs b ho he => by
    have hj : j < ops.size := (Array.getElem?_eq_some_iff.1 ho).1
    have := (mixB_spec hB hj).1
    simp [selB, ho, he] at this
  have hempty : ∀ (listed : Array Bool) (L : List Nat), listed.size = ops.size → L.Pairwise (· < ·) → (∀ j, j ∈ L ↔ j < ops.size ∧ listed.getD j true = false) → Region.ready .any ops listed = [] → L = [] := by
    intro listed L hsz hp hL hr
    cases L with
    | nil => rfl
    | cons i L' =>
      have hi := (hL i).1 (by simp)
      have ho : ops[i]? = some ops[i] := Array.getElem?_eq_getElem hi.1
      have : i ∈ Region.ready .any ops listed := mem_ready.2 ⟨hi.2, _, ho, fun e he hb => by
        have hd : e.on ∈ depsOf ops i := (mem_deps ho).2 ⟨e, he, hb, rfl⟩
        have hlt := (mixB_spec hB hi.1).2.1 _ hd
        rcases Classical.em (listed.getD e.on false = true) with h | h
        · exact h
        · have hm := (hL e.on).2 ⟨by omega, getD_true_of h (by omega)⟩
          rcases List.mem_cons.1 hm with h' | h'
          · omega
          · have := (List.pairwise_cons.1 hp).1 _ h'; omega⟩
      rw [hr] at this
      cases this
  intro fuel
  induction fuel with
  | zero =>
    intro listed L a w hsz hp hL hdc hS hlen h
    obtain rfl : L = [] := List.eq_nil_of_length_eq_zero (by omega)
    refine ⟨?_, h⟩
    rw [List.eq_nil_iff_forall_not_mem]
    intro i hi
    obtain ⟨h0, o, ho, _⟩ := mem_ready.1 hi
    have := (hL i).2 ⟨(Array.getElem?_eq_some_iff.1 ho).1, h0⟩
    cases this
  | succ fuel ih =>
    intro listed L a w hsz hp hL hdc hS hlen h
    refine ⟨fun hr => ?_, fun i hi => ?_⟩
    · obtain rfl := hempty listed L hsz hp hL hr
      exact h
    · obtain ⟨h0, o, ho, hready⟩ := mem_ready.1 hi
      have hin : i < ops.size := (Array.getElem?_eq_some_iff.1 ho).1
      obtain ⟨pre, post, rfl⟩ := List.append_of_mem ((hL i).2 ⟨hin, h0⟩)
      have hdi : ∀ y ∈ depsOf ops i, listed.getD y false = true := fun y hy => by
        obtain ⟨e, he, hb, rfl⟩ := (mem_deps ho).1 hy
        exact hready e he hb
      have hlt : ∀ x ∈ pre, x < i := fun x hx => (List.pairwise_append.1 hp).2.2 x hx i (by simp)
      have hgt : ∀ x ∈ post, i < x := fun x hx => (List.pairwise_cons.1 (List.pairwise_append.1 hp).2.1).1 x hx
      have hfree : ∀ x ∈ pre, Free ops x i ∧ (ch x && ch i) = false := fun x hx => by
        have hxl := ((hL x).1 (by simp [hx])).2
        have hxs := ((hL x).1 (by simp [hx])).1
        rcases (mixB_spec hB hin).2.2 x (hlt x hx) with hr | ⟨ha, hc⟩
        · have := reach_listed hdc _ i x hdi hr
          have hxx : x < listed.size := by omega
          simp [hxx] at this hxl
          rw [this] at hxl
          cases hxl
        · refine ⟨fun ox oi hox hoi => ?_, hc⟩
          simp [apartB, hox, hoi] at ha
          exact ha
      -- the lists and marks behind i
      have hp' : (pre ++ post).Pairwise (· < ·) := hp.sublist (by simp)
      have hL' : ∀ j, j ∈ pre ++ post ↔ j < ops.size ∧ (listed.setIfInBounds i true).getD j true = false := by
        intro j
        by_cases hji : j = i
        · subst hji
          constructor
          · intro hm
            rcases List.mem_append.1 hm with hm | hm
            · have := hlt _ hm; omega
            · have := hgt _ hm; omega
          · rintro ⟨_, hm⟩
            have hjs : j < listed.size := by omega
            simp [hjs] at hm
        · rw [getD_set_ne true (Ne.symm hji), ← hL j]
          simp [hji]
      have hdc' : DC ops (listed.setIfInBounds i true) := by
        intro j hj x hx
        by_cases hji : j = i
        · subst hji; exact getD_set_true (hdi x hx)
        · rw [getD_set_ne false (Ne.symm hji)] at hj
          exact getD_set_true (hdc j hj x hx)
      have hlen' : (pre ++ post).length ≤ fuel := by simp at hlen ⊢; omega
      have next : ∀ a' w', S w' → wpMix P ops ch S (fun a w => Q' .normal a w) (pre ++ post) a' w' → wpAny P .any ops Q' fuel (listed.setIfInBounds i true) a' w' :=
        fun a' w' hS' hh => ih _ (pre ++ post) a' w' (by simpa using hsz) hp' hL' hdc' hS' hlen' hh
      unfold wpOp
      simp only [ho]
      cases hc : ch i
      · obtain ⟨v, hy, hr⟩ := bubble hsel ho hc pre a w (fun x hx => (hfree x hx).1) hS h
        rcases hy with ⟨hw, hv⟩ | ⟨hw, rfl⟩
        · simp only [hw, if_true]
          refine .inl ?_
          unfold Oper.wp
          rw [hv w hS]
          exact next _ _ hS hr
        · simp only [hw, Bool.false_eq_true, if_false]
          exact next _ _ hS hr
      · obtain ⟨g1, g2⟩ := bubbleLink hsel ho hc pre a w (fun x hx => ⟨(hfree x hx).1, by have := (hfree x hx).2; rw [hc] at this; simpa using this⟩) h
        cases hw : Region.wanted o (yielded ops a.tmps)
        · simp only [Bool.false_eq_true, if_false]
          exact next _ _ hS (g2 hw)
        · simp only [if_true]
          exact .inl (wp_QF (Oper.wp_mono (fun a' w' hh => next a' w' hh.1 hh.2) (g1 hw)))

theorem wp_region_mix {id : Nat} {Q' : Exit → Act → World → Prop} {a : Act} {w : World} (ch : Nat → Bool) (S : World → Prop) (hm : P.follows .mixedOrders = true) (hB : mixB ops ch = true) (hS : S w.drew)
    (h : wpMix P ops ch S (fun a w => Q' .normal a w) (List.range ops.size) a w.drew) : (Code.region id ops true).wp P Q' a w := by
  refine wp_region_any hm (mix_any hB ops.size _ (List.range ops.size) a _ (by simp) List.pairwise_lt_range (fun j => ?_) (fun j hj => ?_) hS (by simp) h)
  · simp only [List.mem_range]
    constructor
    · intro hj; exact ⟨hj, by simp [hj]⟩
    · exact fun hj => hj.1
  · exfalso
    by_cases hjs : j < ops.size
    · simp [hjs] at hj
    · simp [hjs] at hj

/-! the same over the list of the operations -/
/-- it only reckons or reads: whatever comes of it is a value -/
def stillB : Op → Bool
  | .move _ | .assign _ | .pick _ _ _ | .build _ _ | .load _ _ | .nilCheck _ | .binOp _ _ _ _ _ | .unOp _ _ _ | .convert _ _ _ | .slice _ _ _ _ _ | .fieldAddr _ _ _ | .field _ _ _ | .indexAddr _ _ _ | .index _ _ _ | .extract _ _ | .makeInterface _ _ | .lookup _ _ _ _ => true
  | .call c => (match c.callee with | .builtin .len => true | .builtin .cap => true | .builtin .min => true | .builtin .max => true | _ => false)
  | _ => false
def linkAt (ops : Array Oper) (i : Nat) : Bool := ((ops[i]?).map fun o => !stillB o.op).getD false

theorem value_of {s : Sem Value} {w w' : World} {n : Next} (h : (do pure (Next.value (← s)) : Sem Next).run P w = .ok n w') : ∃ u, n = .value u := by
  rw [Sem.run_bind] at h
  cases hs : s.run P w with
  | ok v w1 => rw [hs] at h; simp at h; exact ⟨v, h.1.symm⟩
  | halt x w1 => rw [hs] at h; simp at h

theorem run_panic_no {w w' : World} {n : Next} (h : (runtimePanic .nilDeref : Sem Next).run P w = .ok n w') : False := by
  simp [runtimePanic, goPanic] at h
theorem bind_value {α : Type} {s : Sem α} {f : α → Sem Next} {w w' : World} {n : Next} (hf : ∀ x w1 w2 m, (f x).run P w1 = .ok m w2 → ∃ u, m = .value u) (h : (s >>= f).run P w = .ok n w') : ∃ u, n = .value u := by
  rw [Sem.run_bind] at h
  cases hs : s.run P w with
  | ok v w1 => rw [hs] at h; exact hf _ _ _ _ h
  | halt x w1 => rw [hs] at h; simp at h
theorem still_value {o : Oper} (ho : stillB o.op = true) {ρ : Operand → Value} {w w' : World} {n : Next} (h : (execOp ρ o).run P w = .ok n w') : ∃ u, n = .value u := by
  obtain ⟨dst, op, type, pos, after, guard⟩ := o
  cases op <;> simp only [stillB] at ho <;> try (exact absurd ho (by decide))
  all_goals simp only [execOp] at h
  case move x => simp at h; exact ⟨_, h.1.symm⟩
  case assign x => simp at h; exact ⟨_, h.1.symm⟩
  case pick c x y => exact value_of (s := do pure (if ← asBool (ρ c) then ρ x else ρ y)) (by simpa using h)
  case nilCheck x =>
    split at h
    · exact (run_panic_no h).elim
    · exact (run_panic_no h).elim
    · exact (run_panic_no h).elim
    · split at h
      · exact (run_panic_no h).elim
      · refine bind_value (fun p w1 w2 m h => ?_) h
        refine bind_value (fun r w1 w2 m h => ?_) h
        split at h
        · refine bind_value (fun r w1 w2 m h => ?_) h
          simp at h; exact ⟨_, h.1.symm⟩
        · simp at h; exact ⟨_, h.1.symm⟩
      · simp at h; exact ⟨_, h.1.symm⟩
    · simp at h; exact ⟨_, h.1.symm⟩
  case call c =>
    obtain ⟨callee, args, argTypes⟩ := c
    cases callee with
    | value f => simp at ho
    | invoke r m => simp at ho
    | builtin b =>
      cases b <;> simp at ho
      all_goals
        simp only [resolve, invoke, builtin, Sem.run_bind, Sem.run_pure, Result.andThen_ok] at h
        exact value_of (by rw [Sem.run_bind]; exact h)
  all_goals exact value_of h

def wpMixO (P : Program) (ops : Array Oper) (S : World → Prop) (Q : Act → World → Prop) : List Oper → Act → World → Prop
  | [], a, w => Q a w
  | o :: rest, a, w =>
      (Region.wanted o (yielded ops a.tmps) = false → wpMixO P ops S Q rest (a.put o.dst undef) w) ∧
      (Region.wanted o (yielded ops a.tmps) = true → stillB o.op = false → o.wp P a w (fun a' w' => S w' ∧ wpMixO P ops S Q rest a' w') QF) ∧
      (Region.wanted o (yielded ops a.tmps) = true → stillB o.op = true → ∃ v, (∀ w, S w → (execOp a.eval o).run P w = .ok (.value v) w) ∧ wpMixO P ops S Q rest (a.put o.dst v) w)

theorem mix_of_O : ∀ (l : List Oper) (k : Nat) (a : Act) (w : World), ops.toList.drop k = l → wpMixO P ops S Q l a w → wpMix P ops (linkAt ops) S Q (List.range' k l.length) a w
  | [], _, _, _, _, h => h
  | o :: rest, k, a, w, hl, h => by
    have hk : ops.toList[k]? = some o := by
      have := congrArg (·[0]?) hl
      simpa [List.getElem?_drop] using this
    have hk' : ops[k]? = some o := by simpa using hk
    have hr : ops.toList.drop (k + 1) = rest := by
      have := congrArg (List.drop 1) hl
      simpa [List.drop_drop, Nat.add_comm] using this
    obtain ⟨h1, h2, h3⟩ := h
    simp only [List.length_cons, List.range'_succ]
    refine ⟨o, hk', fun hw => mix_of_O rest (k + 1) _ w hr (h1 hw), fun hw hc => ?_, fun hw hc => ?_⟩
    · have hs : stillB o.op = false := by simpa [linkAt, hk'] using hc
      exact Oper.wp_mono (fun a' w' hh => ⟨hh.1, mix_of_O rest (k + 1) a' w' hr hh.2⟩) (h2 hw hs)
    · have hs : stillB o.op = true := by simpa [linkAt, hk'] using hc
      obtain ⟨v, hv, hr'⟩ := h3 hw hs
      exact ⟨v, hv, mix_of_O rest (k + 1) _ w hr hr'⟩

theorem wp_region_mixO {id : Nat} {Q' : Exit → Act → World → Prop} {a : Act} {w : World} {l : List Oper} (S : World → Prop) (hm : P.follows .mixedOrders = true) (hB : mixB l.toArray (linkAt l.toArray) = true) (hS : S w.drew)
    (h : wpMixO P l.toArray S (fun a w => Q' .normal a w) l a w.drew) : (Code.region id l.toArray true).wp P Q' a w := by
  refine wp_region_mix (linkAt l.toArray) S hm hB hS ?_
  have := mix_of_O (ops := l.toArray) l 0 a w.drew (by simp) h
  simpa [List.range_eq_range'] using this

/-- the worlds that meet S, as a type of their own -/
structure SW (S : World → Prop) where
  w : World
  h : S w

/-- a stretch without links: as in a quiet region -/
theorem mixO_seg {rest : List Oper} {w : World} : ∀ (seg : List Oper) (a : Act), (∀ o ∈ seg, stillB o.op = true) → wpQuiet P ops (fun w' => ∃ p : SW S, w' = p.w) (fun a' => wpMixO P ops S Q rest a' w) seg a → wpMixO P ops S Q (seg ++ rest) a w
  | [], _, _, h => h
  | o :: seg, a, hs, h => by
    have hso := hs o (by simp)
    have hs' : ∀ x ∈ seg, stillB x.op = true := fun x hx => hs x (by simp [hx])
    simp only [wpQuiet] at h
    cases hw : Region.wanted o (yielded ops a.tmps)
    · rw [hw] at h
      simp only [Bool.false_eq_true, if_false] at h
      exact ⟨fun _ => mixO_seg seg _ hs' h, (fun hw' => by rw [hw] at hw'; cases hw'), (fun hw' => by rw [hw] at hw'; cases hw')⟩
    · rw [hw] at h
      simp only [if_true] at h
      obtain ⟨v, hv, hr⟩ := h
      refine ⟨(fun hw' => by rw [hw] at hw'; cases hw'), (fun _ hl => by rw [hso] at hl; cases hl), fun _ _ => ⟨v, fun w' hS => ?_, mixO_seg seg _ hs' hr⟩⟩
      have := hv w' ⟨⟨w', hS⟩, rfl⟩
      unfold Oper.quietAt at this
      cases hrun : (execOp a.eval o).run P w' with
      | ok n w1 =>
        obtain ⟨u, rfl⟩ := still_value hso hrun
        rw [hrun] at this
        simp only [Oper.quietUpon] at this
        rw [this.1, this.2]
      | halt x w1 =>
        rw [hrun] at this
        exact this.elim
theorem mixO_take {l : List Oper} {a : Act} {w : World} (n : Nat) (hs : ((l.take n).all fun o => stillB o.op) = true) (h : wpQuiet P ops (fun w' => ∃ p : SW S, w' = p.w) (fun a' => wpMixO P ops S Q (l.drop n) a' w) (l.take n) a) : wpMixO P ops S Q l a w := by
  have := mixO_seg (l.take n) a (fun o ho => List.all_eq_true.1 hs o ho) h
  rwa [List.take_append_drop] at this
theorem mixO_nil {a : Act} {w : World} (h : Q a w) : wpMixO P ops S Q [] a w := h
/-- a link -/
theorem mixO_link {o : Oper} {rest : List Oper} {a : Act} {w : World} (hg : o.guard = none) (hl : stillB o.op = false)
    (h : ∀ K : Act → World → Prop, (∀ a w, S w → wpMixO P ops S Q rest a w → K a w) → o.wp P a w K QF) : wpMixO P ops S Q (o :: rest) a w := by
  have hw : Region.wanted o (yielded ops a.tmps) = true := by simp [Region.wanted, hg]
  exact ⟨(fun hw' => by rw [hw] at hw'; cases hw'), (fun _ _ => h _ fun a w h1 h2 => ⟨h1, h2⟩), (fun _ hl' => by rw [hl] at hl'; cases hl')⟩

/-! WHERE SEVERAL LINKS MAY COME NEXT: a walk that parts there alone; what holds throughout (S) may grow behind a link -/
def wpG (P : Program) (ops : Array Oper) (Q : Act → World → Prop) : Nat → (World → Prop) → Array Bool → Act → World → Prop
  | 0, S, listed, a, w => S w ∧ Region.ready .any ops listed = [] ∧ Q a w
  | f + 1, S, listed, a, w => S w ∧ (Region.ready .any ops listed = [] → Q a w) ∧ ∀ i ∈ Region.ready .any ops listed, ∃ o, ops[i]? = some o ∧
      (Region.wanted o (yielded ops a.tmps) = false → wpG P ops Q f S (listed.setIfInBounds i true) (a.put o.dst undef) w) ∧
      (Region.wanted o (yielded ops a.tmps) = true → o.wp P a w (fun a' w' => ∃ S' : World → Prop, (∀ w, S' w → S w) ∧ wpG P ops Q f S' (listed.setIfInBounds i true) a' w') QF)

theorem wpG_S {f : Nat} {listed : Array Bool} {a : Act} {w : World} (h : wpG P ops Q f S listed a w) : S w := by
  cases f <;> exact h.1

theorem yields_less {S' : World → Prop} {o : Oper} {v : Value} {a : Act} (hs : ∀ w, S' w → S w) (h : YieldsIf P ops S o v a) : YieldsIf P ops S' o v a :=
  h.imp (fun x => ⟨x.1, fun w hw => x.2 w (hs w hw)⟩) id

theorem set_swap (listed : Array Bool) (i j : Nat) : (listed.setIfInBounds i true).setIfInBounds j true = (listed.setIfInBounds j true).setIfInBounds i true := by
  by_cases h : i = j
  · subst h; rfl
  · exact Array.setIfInBounds_comm _ _ h

theorem G_first (hsel : NoSel ops) {i : Nat} {oi : Oper} {v : Value} (hi : ops[i]? = some oi) : ∀ (f : Nat) (S : World → Prop) (listed : Array Bool) (a : Act) (w : World),
    (∀ j, listed.getD j true = false → j ≠ i → i ∈ depsOf ops j ∨ Free ops j i) → i ∈ Region.ready .any ops listed → YieldsIf P ops S oi v a → S w →
    wpG P ops Q f S (listed.setIfInBounds i true) (a.put oi.dst v) w → wpG P ops Q (f + 1) S listed a w := by
  intro f
  induction f with
  | zero =>
    intro S listed a w hfr hr hy hS H
    refine ⟨hS, fun h => (by rw [h] at hr; cases hr), fun j hj => ?_⟩
    by_cases hji : j = i
    · subst hji
      refine ⟨oi, hi, fun hw => ?_, fun hw => ?_⟩
      · rcases hy with ⟨hw', _⟩ | ⟨_, rfl⟩
        · rw [hw'] at hw; cases hw
        · exact H
      · rcases hy with ⟨_, hv⟩ | ⟨hw', _⟩
        · unfold Oper.wp; rw [hv w hS]; exact ⟨S, fun _ h => h, H⟩
        · rw [hw'] at hw; cases hw
    · have := ready_mono hj hji
      rw [H.2.1] at this
      cases this
  | succ f ih =>
    intro S listed a w hfr hr hy hS H
    refine ⟨hS, fun h => (by rw [h] at hr; cases hr), fun j hj => ?_⟩
    by_cases hji : j = i
    · subst hji
      refine ⟨oi, hi, fun hw => ?_, fun hw => ?_⟩
      · rcases hy with ⟨hw', _⟩ | ⟨_, rfl⟩
        · rw [hw'] at hw; cases hw
        · exact H
      · rcases hy with ⟨_, hv⟩ | ⟨hw', _⟩
        · unfold Oper.wp; rw [hv w hS]; exact ⟨S, fun _ h => h, H⟩
        · rw [hw'] at hw; cases hw
    · obtain ⟨oj, hoj, h1, h2⟩ := H.2.2 j (ready_mono hj hji)
      obtain ⟨hjun, oj', hoj', hall⟩ := mem_ready.1 hj
      obtain rfl : oj = oj' := Option.some.inj (hoj.symm.trans hoj')
      have hiun := (mem_ready.1 hr).1
      have hfree : Free ops j i := by
        rcases hfr j hjun hji with hd | hf
        · obtain ⟨e, he, hb, heq⟩ := (mem_deps hoj).1 hd
          have := hall e he hb
          rw [heq] at this
          have hlt : i < listed.size := by
            rcases Nat.lt_or_ge i listed.size with h' | h'
            · exact h'
            · simp [Array.getElem?_eq_none h'] at this
          simp [hlt] at this hiun
          rw [this] at hiun
          cases hiun
        · exact hf
      obtain ⟨f1, f2⟩ := hfree oj oi hoj hi
      obtain ⟨p1, p2, p3⟩ := Oper.apart_spec f1
      have sj := hsel j oj
      have si := hsel i oi
      have hfr' : ∀ k, (listed.setIfInBounds j true).getD k true = false → k ≠ i → i ∈ depsOf ops k ∨ Free ops k i := fun k hk hki => by
        refine hfr k ?_ hki
        by_cases hkj : k = j
        · subst hkj; exact hjun
        · rwa [getD_set_ne true (Ne.symm hkj)] at hk
      have hr' : i ∈ Region.ready .any ops (listed.setIfInBounds j true) := ready_mono hr (Ne.symm hji)
      have wj : Region.wanted oj (yielded ops (a.put oi.dst v).tmps) = Region.wanted oj (yielded ops a.tmps) := wanted_put oj a oi.dst v p1
      refine ⟨oj, hoj, fun hw => ?_, fun hw => ?_⟩
      · have H' := h1 (by rw [wj]; exact hw)
        rw [set_swap, Act.put_comm a v undef p2] at H'
        exact ih S _ _ w hfr' hr' (hy.of_same (execOp_put oi (fun cs b => si cs b hi) a oj.dst undef p3) (wanted_put oi a oj.dst undef p3)) hS H'
      · have H' := h2 (by rw [wj]; exact hw)
        rw [wp_put (ops := ops) (fun cs b => sj cs b hoj) p1 p2] at H'
        refine Oper.wp_mono (fun a' w' hh => ?_) (wp_form H')
        obtain ⟨⟨S', hs, hh⟩, hfm⟩ := hh
        obtain ⟨e1, e2⟩ := form_eval (ops := ops) hfm (fun cs b => si cs b hi) p3
        rw [set_swap] at hh
        exact ⟨S', hs, ih S' _ a' w' hfr' hr' (yields_less hs (hy.of_same e1 e2)) (wpG_S hh) hh⟩

/-- the check of a stretch: each may come up, and every other one waits for it or is apart from it -/
def segB (ops : Array Oper) : Array Bool → List Nat → Bool
  | _, [] => true
  | listed, i :: is =>
    ((ops[i]?).map fun o => stillB o.op).getD false && ((Region.ready .any ops listed).contains i && (((List.range ops.size).all fun j => listed.getD j true || (j == i || ((depsOf ops j).contains i || apartB ops j i))) && segB ops (listed.setIfInBounds i true) is))
def noSelB (ops : Array Oper) : Bool := (List.range ops.size).all fun i => selB ops i
theorem noSel_of (h : noSelB ops = true) : NoSel ops := fun j o cs b ho he => by
  have hj : j < ops.size := (Array.getElem?_eq_some_iff.1 ho).1
  have := List.all_eq_true.1 h j (List.mem_range.2 hj)
  simp [selB, ho, he] at this
def marks (listed : Array Bool) : List Nat → Array Bool
  | [] => listed
  | i :: is => marks (listed.setIfInBounds i true) is
def pickOps (l : List Oper) : List Nat → List Oper
  | [] => []
  | i :: is => (l.drop i).take 1 ++ pickOps l is
def opsAt (ops : Array Oper) (is : List Nat) : List Oper := pickOps ops.toList is

theorem G_seg (hsel : NoSel ops) {w : World} {f : Nat} : ∀ (is : List Nat) (listed : Array Bool) (a : Act), segB ops listed is = true → S w →
    wpQuiet P ops (fun w' => ∃ p : SW S, w' = p.w) (fun a' => wpG P ops Q f S (marks listed is) a' w) (opsAt ops is) a → wpG P ops Q (f + is.length) S listed a w
  | [], _, _, _, _, h => h
  | i :: is, listed, a, hB, hS, h => by
    simp only [segB, Bool.and_eq_true] at hB
    obtain ⟨b1, b2, b3, b4⟩ := hB
    have hr : i ∈ Region.ready .any ops listed := by simpa using b2
    obtain ⟨_, oi, hi, _⟩ := mem_ready.1 hr
    have hso : stillB oi.op = true := by simpa [hi] using b1
    have hfr : ∀ j, listed.getD j true = false → j ≠ i → i ∈ depsOf ops j ∨ Free ops j i := fun j hj hji => by
      rcases Nat.lt_or_ge j ops.size with hlt | hge
      · have := List.all_eq_true.1 b3 j (List.mem_range.2 hlt)
        simp only [Bool.or_eq_true] at this
        rcases this with h' | h' | h' | h'
        · rw [hj] at h'; cases h'
        · exact absurd (by simpa using h') hji
        · exact .inl (by simpa using h')
        · refine .inr fun oj oi' hoj hoi' => ?_
          simp [apartB, hoj, hoi'] at h'
          exact h'
      · exact .inr fun oj oi' hoj _ => by rw [Array.getElem?_eq_none hge] at hoj; cases hoj
    have he : opsAt ops (i :: is) = oi :: opsAt ops is := by
      have hl : ops.toList[i]? = some oi := by simpa using hi
      obtain ⟨hlt, hge⟩ := List.getElem?_eq_some_iff.1 hl
      have : (ops.toList.drop i).take 1 = [oi] := by
        rw [List.drop_eq_getElem_cons hlt, hge]; rfl
      simp only [opsAt, pickOps, this, List.cons_append, List.nil_append]
    rw [he] at h
    simp only [wpQuiet] at h
    have fin : ∀ v, YieldsIf P ops S oi v a → wpQuiet P ops (fun w' => ∃ p : SW S, w' = p.w) (fun a' => wpG P ops Q f S (marks (listed.setIfInBounds i true) is) a' w) (opsAt ops is) (a.put oi.dst v) → wpG P ops Q (f + (i :: is).length) S listed a w := fun v hy hq =>
      G_first hsel hi (f + is.length) S listed a w hfr hr hy hS (G_seg hsel is _ _ b4 hS hq)
    cases hw : Region.wanted oi (yielded ops a.tmps)
    · rw [hw] at h
      simp only [Bool.false_eq_true, if_false] at h
      exact fin undef (.inr ⟨hw, rfl⟩) h
    · rw [hw] at h
      simp only [if_true] at h
      obtain ⟨v, hv, hq⟩ := h
      refine fin v (.inl ⟨hw, fun w' hS' => ?_⟩) hq
      have := hv w' ⟨⟨w', hS'⟩, rfl⟩
      unfold Oper.quietAt at this
      cases hrun : (execOp a.eval oi).run P w' with
      | ok n w1 =>
        obtain ⟨u, rfl⟩ := still_value hso hrun
        rw [hrun] at this
        simp only [Oper.quietUpon] at this
        rw [this.1, this.2]
      | halt x w1 =>
        rw [hrun] at this
        exact this.elim

theorem G_stretch (is : List Nat) (f : Nat) {n : Nat} {listed : Array Bool} {a : Act} {w : World} (hn : n = f + is.length) (hsel : noSelB ops = true) (hB : segB ops listed is = true) (hS : S w)
    (h : wpQuiet P ops (fun w' => ∃ p : SW S, w' = p.w) (fun a' => wpG P ops Q f S (marks listed is) a' w) (opsAt ops is) a) : wpG P ops Q n S listed a w := by
  subst hn
  exact G_seg (noSel_of hsel) is listed a hB hS h

/-- operation i, as it stands -/
def opWp (P : Program) (l : List Oper) (a : Act) (w : World) (K : Act → World → Prop) : Prop := ∀ o, l.take 1 = [o] → o.wp P a w K QF
theorem opWp_cons {o : Oper} {l : List Oper} {a : Act} {w : World} {K : Act → World → Prop} (h : o.wp P a w K QF) : opWp P (o :: l) a w K := by
  intro o' ho
  simp at ho
  subst ho
  exact h
def freeAt (ops : Array Oper) (i : Nat) : Bool := ((ops[i]?).map fun o => o.guard.isNone).getD false
theorem opWp_at {i : Nat} {a : Act} {w : World} {K : Act → World → Prop} (hg : freeAt ops i = true) (h : opWp P (ops.toList.drop i) a w K) :
    ∃ o, ops[i]? = some o ∧ Region.wanted o (yielded ops a.tmps) = true ∧ o.wp P a w K QF := by
  cases ho : ops[i]? with
  | none => simp [freeAt, ho] at hg
  | some o =>
    have hl : ops.toList[i]? = some o := by simpa using ho
    obtain ⟨hlt, hge⟩ := List.getElem?_eq_some_iff.1 hl
    refine ⟨o, rfl, ?_, h o (by rw [List.drop_eq_getElem_cons hlt, hge]; rfl)⟩
    have : o.guard = none := by simpa [freeAt, ho] using hg
    simp [Region.wanted, this]
/-- one link may come next -/
theorem G_one (i : Nat) {f n : Nat} {listed : Array Bool} {a : Act} {w : World} (hn : n = f + 1) (hr : Region.ready .any ops listed = [i]) (hg : freeAt ops i = true) (hS : S w)
    (h : ∀ K : Act → World → Prop, (∀ (S' : World → Prop) a' w', (∀ w, S' w → S w) → wpG P ops Q f S' (listed.setIfInBounds i true) a' w' → K a' w') → opWp P (ops.toList.drop i) a w K) : wpG P ops Q n S listed a w := by
  subst hn
  refine ⟨hS, (fun h => by rw [hr] at h; cases h), fun j hj => ?_⟩
  rw [hr, List.mem_singleton] at hj
  subst hj
  obtain ⟨o, ho, hw, hh⟩ := opWp_at hg (h _ fun S' a' w' h1 h2 => (⟨S', h1, h2⟩ : ∃ S' : World → Prop, (∀ w, S' w → S w) ∧ wpG P ops Q f S' _ a' w'))
  exact ⟨o, ho, (fun hw' => by rw [hw] at hw'; cases hw'), fun _ => hh⟩
/-- one of two links -/
theorem G_two (i j : Nat) {f n : Nat} {listed : Array Bool} {a : Act} {w : World} (hn : n = f + 1) (hr : Region.ready .any ops listed = [i, j]) (hgi : freeAt ops i = true) (hgj : freeAt ops j = true) (hS : S w)
    (hi : ∀ K : Act → World → Prop, (∀ (S' : World → Prop) a' w', (∀ w, S' w → S w) → wpG P ops Q f S' (listed.setIfInBounds i true) a' w' → K a' w') → opWp P (ops.toList.drop i) a w K)
    (hj : ∀ K : Act → World → Prop, (∀ (S' : World → Prop) a' w', (∀ w, S' w → S w) → wpG P ops Q f S' (listed.setIfInBounds j true) a' w' → K a' w') → opWp P (ops.toList.drop j) a w K) : wpG P ops Q n S listed a w := by
  subst hn
  refine ⟨hS, (fun h => by rw [hr] at h; cases h), fun k hk => ?_⟩
  rw [hr] at hk
  simp only [List.mem_cons, List.mem_nil_iff, or_false] at hk
  rcases hk with rfl | rfl
  · obtain ⟨o, ho, hw, hh⟩ := opWp_at hgi (hi _ fun S' a' w' h1 h2 => (⟨S', h1, h2⟩ : ∃ S' : World → Prop, (∀ w, S' w → S w) ∧ wpG P ops Q f S' _ a' w'))
    exact ⟨o, ho, (fun hw' => by rw [hw] at hw'; cases hw'), fun _ => hh⟩
  · obtain ⟨o, ho, hw, hh⟩ := opWp_at hgj (hj _ fun S' a' w' h1 h2 => (⟨S', h1, h2⟩ : ∃ S' : World → Prop, (∀ w, S' w → S w) ∧ wpG P ops Q f S' _ a' w'))
    exact ⟨o, ho, (fun hw' => by rw [hw] at hw'; cases hw'), fun _ => hh⟩
theorem G_done {listed : Array Bool} {a : Act} {w : World} (hr : Region.ready .any ops listed = []) (hS : S w) (h : Q a w) : wpG P ops Q 0 S listed a w := ⟨hS, hr, h⟩

theorem any_of_G {Q' : Exit → Act → World → Prop} : ∀ (f : Nat) (S : World → Prop) (listed : Array Bool) (a : Act) (w : World), wpG P ops (fun a w => Q' .normal a w) f S listed a w → wpAny P .any ops Q' f listed a w
  | 0, _, _, _, _, h => ⟨h.2.1, h.2.2⟩
  | f + 1, S, listed, a, w, h => by
    refine ⟨h.2.1, fun i hi => ?_⟩
    obtain ⟨o, ho, h1, h2⟩ := h.2.2 i hi
    unfold wpOp
    simp only [ho]
    cases hw : Region.wanted o (yielded ops a.tmps)
    · simp only [Bool.false_eq_true, if_false]
      exact any_of_G f S _ _ _ (h1 hw)
    · simp only [if_true]
      exact .inl (wp_QF (Oper.wp_mono (fun a' w' ⟨S', _, hh⟩ => any_of_G f S' _ _ _ hh) (h2 hw)))

theorem wp_region_G {id : Nat} {Q' : Exit → Act → World → Prop} {a : Act} {w : World} (S : World → Prop) (n : Nat) (hn : ops.size = n) (hm : P.follows .mixedOrders = true)
    (h : wpG P ops (fun a w => Q' .normal a w) n S (Array.replicate n false) a w.drew) : (Code.region id ops true).wp P Q' a w := by
  subst hn
  exact wp_region_any hm (any_of_G _ S _ a _ h)
end
end Go.Proofs.YtliiehfjcplieaaDoor
