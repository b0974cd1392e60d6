/- Regions that draw their order: the theorem. -/
import Derived.Test.YticpkkjnajmpoaaGreatDoorKs
set_option linter.all false
namespace Go.Proofs.YticpkkjnajmpoaaGreatDoor.KM
open Go
variable {T : Nat → Option AF} {pr : Nat → Option (List V → Option V)}

/-- i comes ahead of j -/
def befB (deps : List (List Nat)) : Nat → Nat → Nat → Bool
  | 0, _, _ => false
  | f + 1, j, i => (deps.getD j []).any fun d => d == i || befB deps f d i
def pairB (T : Nat → Option AF) (pr : Nat → Option (List V → Option V)) (x y : AI) : Bool :=
  (match x.dst with
    | some d => !y.rd.elem d && !(y.dst == some d)
    | none => true) && ((match y.dst with
    | some d => !x.rd.elem d
    | none => true) && !(cls T pr x.op == 2 && cls T pr y.op == 2))
def staticB (T : Nat → Option AF) (pr : Nat → Option (List V → Option V)) (deps : List (List Nat)) (ops : List AI) : Bool :=
  deps.length == ops.length && (List.range ops.length).all fun j => ((deps.getD j []).all fun d => decide (d < j)) && (List.range j).all fun i => befB deps ops.length j i || (match ops[i]?, ops[j]? with
    | some x, some y => pairB T pr x y
    | _, _ => false)

def chkE (deps : List (List Nat)) (n k : Nat) (σ σ1 : St) : List (Nat × Nat × Bool × V) → Prop
  | [] => True
  | (i, m, one, p) :: r => (befB deps n k i = true ∨ loadV σ1 m one p = loadV σ m one p) ∧ chkE deps n k σ σ1 r
def chkL (deps : List (List Nat)) (n k : Nat) (m : Nat) (one : Bool) (p : V) : List (Nat × St × St) → Prop
  | [] => True
  | (j, s, s1) :: r => (befB deps n k j = true ∨ loadV s1 m one p = loadV s m one p) ∧ chkL deps n k m one p r
theorem chkE_mem {deps : List (List Nat)} {n k : Nat} {σ σ1 : St} : ∀ {l : List (Nat × Nat × Bool × V)}, chkE deps n k σ σ1 l → ∀ i m one p, (i, m, one, p) ∈ l → befB deps n k i = true ∨ loadV σ1 m one p = loadV σ m one p
  | [], _, _, _, _, _, h => by cases h
  | _ :: _, h, i, m, one, p, hm => by
    rcases List.mem_cons.1 hm with rfl | hm
    · exact h.1
    · exact chkE_mem h.2 i m one p hm
theorem chkL_mem {deps : List (List Nat)} {n k m : Nat} {one : Bool} {p : V} : ∀ {l : List (Nat × St × St)}, chkL deps n k m one p l → ∀ j s s1, (j, s, s1) ∈ l → befB deps n k j = true ∨ loadV s1 m one p = loadV s m one p
  | [], _, _, _, _, h => by cases h
  | _ :: _, h, j, s, s1, hm => by
    rcases List.mem_cons.1 hm with rfl | hm
    · exact h.1
    · exact chkL_mem h.2 j s s1 hm

/-- the walk in the order of the text -/
inductive TE (T : Nat → Option AF) (pr : Nat → Option (List V → Option V)) (deps : List (List Nat)) (n : Nat) : Nat → List AI → Env → St → List (Nat × St × St) → List (Nat × Nat × Bool × V) → Env → St → Prop
  | nil {k : Nat} {e : Env} {σ : St} {fs : List (Nat × St × St)} {ls : List (Nat × Nat × Bool × V)} : TE T pr deps n k [] e σ fs ls e σ
  | calm {k : Nat} {i : AI} {l : List AI} {e e' : Env} {σ σ' : St} {v : V} {fs : List (Nat × St × St)} {ls : List (Nat × Nat × Bool × V)} : cls T pr i.op = 0 → Stp T pr i e σ v σ → TE T pr deps n (k + 1) l (e.putO i.dst v) σ fs ls e' σ' → TE T pr deps n k (i :: l) e σ fs ls e' σ'
  | load {k : Nat} {d : Option Nat} {m : Nat} {one : Bool} {x : S} {g : Option (Nat × Bool)} {l : List AI} {e e' : Env} {σ σ' : St} {v : V} {fs : List (Nat × St × St)} {ls : List (Nat × Nat × Bool × V)} : Stp T pr ⟨d, .load m one x, g⟩ e σ v σ → chkL deps n k m one (src e x) fs →
      TE T pr deps n (k + 1) l (e.putO d v) σ fs ((k, m, one, src e x) :: ls) e' σ' → TE T pr deps n k (⟨d, .load m one x, g⟩ :: l) e σ fs ls e' σ'
  | eff {k : Nat} {i : AI} {l : List AI} {e e' : Env} {σ σ1 σ' : St} {v : V} {fs : List (Nat × St × St)} {ls : List (Nat × Nat × Bool × V)} : cls T pr i.op = 2 → Stp T pr i e σ v σ1 → chkE deps n k σ σ1 ls →
      TE T pr deps n (k + 1) l (e.putO i.dst v) σ1 ((k, σ, σ1) :: fs) ls e' σ' → TE T pr deps n k (i :: l) e σ fs ls e' σ'

/-- the walk as three sequences -/
structure Sq (T : Nat → Option AF) (pr : Nat → Option (List V → Option V)) (deps : List (List Nat)) (n k : Nat) (l : List AI) (e : Env) (σ : St) (fs : List (Nat × St × St)) (ls : List (Nat × Nat × Bool × V)) (e' : Env) (σ' : St) (env : Nat → Env) (st : Nat → St) (val : Nat → V) : Prop where
  e0 : env k = e
  s0 : st k = σ
  e1 : env (k + l.length) = e'
  s1 : st (k + l.length) = σ'
  stp : ∀ j i, l[j]? = some i → Stp T pr i (env (k + j)) (st (k + j)) (val (k + j)) (st (k + j + 1)) ∧ env (k + j + 1) = (env (k + j)).putO i.dst (val (k + j)) ∧ (cls T pr i.op ≠ 2 → st (k + j + 1) = st (k + j)) ∧ (cls T pr i.op = 0 ∨ cls T pr i.op = 2 ∨ ∃ m one x, i.op = .load m one x)
  d1 : ∀ a b i j m one x, l[a]? = some i → l[b]? = some j → i.op = .load m one x → cls T pr j.op = 2 → (befB deps n (k + a) (k + b) = true ∨ befB deps n (k + b) (k + a) = true ∨ loadV (st (k + b + 1)) m one (src (env (k + a)) x) = loadV (st (k + b)) m one (src (env (k + a)) x))
  d2 : ∀ a i m one x j s s1, l[a]? = some i → i.op = .load m one x → (j, s, s1) ∈ fs → befB deps n (k + a) j = true ∨ loadV s1 m one (src (env (k + a)) x) = loadV s m one (src (env (k + a)) x)
  d3 : ∀ b j i m one p, l[b]? = some j → cls T pr j.op = 2 → (i, m, one, p) ∈ ls → befB deps n (k + b) i = true ∨ loadV (st (k + b + 1)) m one p = loadV (st (k + b)) m one p

theorem TE.sq {deps : List (List Nat)} {n k : Nat} {l : List AI} {e e' : Env} {σ σ' : St} {fs : List (Nat × St × St)} {ls : List (Nat × Nat × Bool × V)} (h : TE T pr deps n k l e σ fs ls e' σ') : ∃ env st val, Sq T pr deps n k l e σ fs ls e' σ' env st val := by
  induction h with
  | @nil k e σ fs ls =>
    exact ⟨fun _ => e, fun _ => σ, fun _ => .und, ⟨rfl, rfl, rfl, rfl, fun j i h => by simp at h, fun a b i j m one x h => by simp at h, fun a i m one x j s s1 h => by simp at h, fun b j i m one p h => by simp at h⟩⟩
  | @calm k i l e e' σ σ' v fs ls hc hs _ ih =>
    obtain ⟨env, st, val, q⟩ := ih
    refine ⟨fun m => if m = k then e else env m, fun m => if m = k then σ else st m, fun m => if m = k then v else val m, ⟨if_pos rfl, if_pos rfl, ?_, ?_, fun j x hx => ?_, fun a b x y m one p ha hb hx hy => ?_, fun a x m one p j s s1 ha hx hin => ?_, fun b y x m one p hb hy hin => ?_⟩⟩
    · rw [if_neg (by simp)]; simp only [List.length_cons]; rw [show k + (l.length + 1) = k + 1 + l.length by omega]; exact q.e1
    · rw [if_neg (by simp)]; simp only [List.length_cons]; rw [show k + (l.length + 1) = k + 1 + l.length by omega]; exact q.s1
    · cases j with
      | zero =>
        simp at hx
        subst hx
        have hk : ¬ (k + 0 + 1 = k) := by omega
        refine ⟨?_, ?_, fun _ => ?_, .inl hc⟩
        · rw [if_pos (Nat.add_zero k), if_pos (Nat.add_zero k), if_pos (Nat.add_zero k), if_neg hk, show k + 0 + 1 = k + 1 from rfl, q.s0]; exact hs
        · rw [if_pos (Nat.add_zero k), if_pos (Nat.add_zero k), if_neg hk]; exact q.e0
        · rw [if_pos (Nat.add_zero k), if_neg hk]; exact q.s0
      | succ j =>
        have := q.stp j x (by simpa using hx)
        rw [show k + (j + 1) = k + 1 + j by omega]
        simpa only [if_neg (show k + 1 + j ≠ k by omega), if_neg (show k + 1 + j + 1 ≠ k by omega)] using this
    · cases a with
      | zero => simp at ha; subst ha; rw [hx] at hc; simp [cls] at hc
      | succ a =>
        cases b with
        | zero => simp at hb; subst hb; rw [hc] at hy; cases hy
        | succ b =>
          have := q.d1 a b x y m one p (by simpa using ha) (by simpa using hb) hx hy
          rw [show k + (a + 1) = k + 1 + a by omega, show k + (b + 1) = k + 1 + b by omega]
          simpa only [if_neg (show k + 1 + a ≠ k by omega), if_neg (show k + 1 + b ≠ k by omega), if_neg (show k + 1 + b + 1 ≠ k by omega)] using this
    · cases a with
      | zero => simp at ha; subst ha; rw [hx] at hc; simp [cls] at hc
      | succ a =>
        have := q.d2 a x m one p j s s1 (by simpa using ha) hx hin
        rw [show k + (a + 1) = k + 1 + a by omega]
        simpa only [if_neg (show k + 1 + a ≠ k by omega)] using this
    · cases b with
      | zero => simp at hb; subst hb; rw [hc] at hy; cases hy
      | succ b =>
        have := q.d3 b y x m one p (by simpa using hb) hy hin
        rw [show k + (b + 1) = k + 1 + b by omega]
        simpa only [if_neg (show k + 1 + b ≠ k by omega), if_neg (show k + 1 + b + 1 ≠ k by omega)] using this
  | @load k d m0 one0 x0 g l e e' σ σ' v fs ls hs hchk _ ih =>
    obtain ⟨env, st, val, q⟩ := ih
    refine ⟨fun m => if m = k then e else env m, fun m => if m = k then σ else st m, fun m => if m = k then v else val m, ⟨if_pos rfl, if_pos rfl, ?_, ?_, fun j x hx => ?_, fun a b x y m one p ha hb hx hy => ?_, fun a x m one p j s s1 ha hx hin => ?_, fun b y x m one p hb hy hin => ?_⟩⟩
    · rw [if_neg (by simp)]; simp only [List.length_cons]; rw [show k + (l.length + 1) = k + 1 + l.length by omega]; exact q.e1
    · rw [if_neg (by simp)]; simp only [List.length_cons]; rw [show k + (l.length + 1) = k + 1 + l.length by omega]; exact q.s1
    · cases j with
      | zero =>
        simp at hx
        subst hx
        have hk : ¬ (k + 0 + 1 = k) := by omega
        refine ⟨?_, ?_, fun _ => ?_, .inr (.inr ⟨m0, one0, x0, rfl⟩)⟩
        · rw [if_pos (Nat.add_zero k), if_pos (Nat.add_zero k), if_pos (Nat.add_zero k), if_neg hk, show k + 0 + 1 = k + 1 from rfl, q.s0]; exact hs
        · rw [if_pos (Nat.add_zero k), if_pos (Nat.add_zero k), if_neg hk]; exact q.e0
        · rw [if_pos (Nat.add_zero k), if_neg hk]; exact q.s0
      | succ j =>
        have := q.stp j x (by simpa using hx)
        rw [show k + (j + 1) = k + 1 + j by omega]
        simpa only [if_neg (show k + 1 + j ≠ k by omega), if_neg (show k + 1 + j + 1 ≠ k by omega)] using this
    · cases b with
      | zero => simp at hb; subst hb; simp [cls] at hy
      | succ b =>
        rw [show k + (b + 1) = k + 1 + b by omega]
        simp only [if_neg (show k + 1 + b ≠ k by omega), if_neg (show k + 1 + b + 1 ≠ k by omega)]
        cases a with
        | zero =>
          simp at ha
          subst ha
          simp only at hx
          injection hx with h1 h2 h3
          subst h1 h2 h3
          have := q.d3 b y k m0 one0 (src e x0) (by simpa using hb) hy (by simp)
          simp only [Nat.add_zero, eq_self, if_true]
          rcases this with h | h
          · exact .inr (.inl h)
          · exact .inr (.inr h)
        | succ a =>
          have := q.d1 a b x y m one p (by simpa using ha) (by simpa using hb) hx hy
          rw [show k + (a + 1) = k + 1 + a by omega]
          simpa only [if_neg (show k + 1 + a ≠ k by omega)] using this
    · cases a with
      | zero =>
        simp at ha
        subst ha
        simp only at hx
        injection hx with h1 h2 h3
        subst h1 h2 h3
        simp only [Nat.add_zero, eq_self, if_true]
        exact chkL_mem hchk j s s1 hin
      | succ a =>
        have := q.d2 a x m one p j s s1 (by simpa using ha) hx hin
        rw [show k + (a + 1) = k + 1 + a by omega]
        simpa only [if_neg (show k + 1 + a ≠ k by omega)] using this
    · cases b with
      | zero => simp at hb; subst hb; simp [cls] at hy
      | succ b =>
        have := q.d3 b y x m one p (by simpa using hb) hy (by simp [hin])
        rw [show k + (b + 1) = k + 1 + b by omega]
        simpa only [if_neg (show k + 1 + b ≠ k by omega), if_neg (show k + 1 + b + 1 ≠ k by omega)] using this
  | @eff k i l e e' σ σ1 σ' v fs ls hc hs hchk _ ih =>
    obtain ⟨env, st, val, q⟩ := ih
    refine ⟨fun m => if m = k then e else env m, fun m => if m = k then σ else st m, fun m => if m = k then v else val m, ⟨if_pos rfl, if_pos rfl, ?_, ?_, fun j x hx => ?_, fun a b x y m one p ha hb hx hy => ?_, fun a x m one p j s s1 ha hx hin => ?_, fun b y x m one p hb hy hin => ?_⟩⟩
    · rw [if_neg (by simp)]; simp only [List.length_cons]; rw [show k + (l.length + 1) = k + 1 + l.length by omega]; exact q.e1
    · rw [if_neg (by simp)]; simp only [List.length_cons]; rw [show k + (l.length + 1) = k + 1 + l.length by omega]; exact q.s1
    · cases j with
      | zero =>
        simp at hx
        subst hx
        have hk : ¬ (k + 0 + 1 = k) := by omega
        refine ⟨?_, ?_, fun h => absurd hc h, .inr (.inl hc)⟩
        · rw [if_pos (Nat.add_zero k), if_pos (Nat.add_zero k), if_pos (Nat.add_zero k), if_neg hk, show k + 0 + 1 = k + 1 from rfl, q.s0]; exact hs
        · rw [if_pos (Nat.add_zero k), if_pos (Nat.add_zero k), if_neg hk]; exact q.e0
      | succ j =>
        have := q.stp j x (by simpa using hx)
        rw [show k + (j + 1) = k + 1 + j by omega]
        simpa only [if_neg (show k + 1 + j ≠ k by omega), if_neg (show k + 1 + j + 1 ≠ k by omega)] using this
    · cases a with
      | zero => simp at ha; subst ha; rw [hx] at hc; simp [cls] at hc
      | succ a =>
        rw [show k + (a + 1) = k + 1 + a by omega]
        simp only [if_neg (show k + 1 + a ≠ k by omega)]
        cases b with
        | zero =>
          simp at hb
          subst hb
          have := q.d2 a x m one p k σ σ1 (by simpa using ha) hx (by simp)
          simp only [Nat.add_zero, eq_self, if_true, show (k + 1 = k) = False by simp, if_false, q.s0]
          rcases this with h | h
          · exact .inl h
          · exact .inr (.inr h)
        | succ b =>
          have := q.d1 a b x y m one p (by simpa using ha) (by simpa using hb) hx hy
          rw [show k + (b + 1) = k + 1 + b by omega]
          simpa only [if_neg (show k + 1 + b ≠ k by omega), if_neg (show k + 1 + b + 1 ≠ k by omega)] using this
    · cases a with
      | zero => simp at ha; subst ha; rw [hx] at hc; simp [cls] at hc
      | succ a =>
        have := q.d2 a x m one p j s s1 (by simpa using ha) hx (by simp [hin])
        rw [show k + (a + 1) = k + 1 + a by omega]
        simpa only [if_neg (show k + 1 + a ≠ k by omega)] using this
    · cases b with
      | zero =>
        simp at hb
        subst hb
        simp only [Nat.add_zero, eq_self, if_true, show (k + 1 = k) = False by simp, if_false, q.s0]
        exact chkE_mem hchk x m one p hin
      | succ b =>
        have := q.d3 b y x m one p (by simpa using hb) hy hin
        rw [show k + (b + 1) = k + 1 + b by omega]
        simpa only [if_neg (show k + 1 + b ≠ k by omega), if_neg (show k + 1 + b + 1 ≠ k by omega)] using this
end Go.Proofs.YticpkkjnajmpoaaGreatDoor.KM
