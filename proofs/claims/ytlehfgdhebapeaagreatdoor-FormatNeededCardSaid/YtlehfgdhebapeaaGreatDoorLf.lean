/- Plain: no parentheses of an expression's text can be left out. -/
import Derived.Test.YtlehfgdhebapeaaGreatDoorLe
set_option linter.all false
namespace Go.Proofs.YtlehfgdhebapeaaGreatDoor.KM
open Go
/-! equal expressions have the same tokens and texts -/
mutual
theorem same_toks : ∀ (x y : Xp), sameX x y = true → x.op = y.op ∧ x.toks = y.toks ∧ x.txt = y.txt
  | ⟨op, n, nm, z, t, l⟩, ⟨op', n', nm', z', t', l'⟩, h => by
    simp only [sameX, Bool.and_eq_true, beq_iff_eq] at h
    obtain ⟨rfl, rfl, rfl, h⟩ := h
    obtain ⟨h1, h2⟩ := same_tokss l l' h
    simp only [Xp.toks, Xp.txt, h1, h2]
    exact ⟨trivial, trivial, trivial⟩
theorem same_tokss : ∀ (l l' : List Xp), sameXs l l' = true → Xp.tokss l = Xp.tokss l' ∧ Xp.txts l = Xp.txts l'
  | [], [], _ => ⟨rfl, rfl⟩
  | x :: l, y :: l', h => by
    simp only [sameXs, Bool.and_eq_true] at h
    obtain ⟨h1, h2, h3⟩ := same_toks x y h.1
    obtain ⟨h4, h5⟩ := same_tokss l l' h.2
    simp only [Xp.tokss, Xp.txts, h1, h2, h3, h4, h5]
    exact ⟨trivial, trivial⟩
  | [], _ :: _, h => by cases h
  | _ :: _, [], h => by cases h
end
/-! what is parsed has no more tokens than its text needs -/
def cntX (lvl : Nat) (x : Xp) : Nat := (putK (x.op, x.toks) lvl).length
theorem cnt_le {a b : Nat} (h : a ≤ b) (x : Xp) : cntX a x ≤ cntX b x ∧ cntX b x ≤ cntX a x + 2 ∧ x.toks.length ≤ cntX a x := by
  unfold cntX putK
  simp only
  by_cases h1 : lvE x.op < (a : Int)
  · rw [if_pos h1, if_pos (by omega)]
    simp
    omega
  · rw [if_neg h1]
    split
    · simp
      omega
    · simp
theorem opT_all (s : List UInt8) : opT s = (0, 0) ∨ ((6 ≤ (opT s).1 ∧ (opT s).1 ≤ 18) ∧ (opT s).2 = lvE (opT s).1) := by
  unfold opT
  cases h : opTab.lookup s with
  | none => exact .inl rfl
  | some p =>
    have hm : ∃ k, (k, p) ∈ opTab := by
      revert h
      generalize opTab = l
      induction l with
      | nil => intro h; cases h
      | cons q l ih =>
        intro h
        obtain ⟨k, v⟩ := q
        rw [List.lookup_cons] at h
        split at h
        · cases h; exact ⟨k, List.mem_cons_self⟩
        · obtain ⟨k', hk⟩ := ih h; exact ⟨k', List.mem_cons_of_mem _ hk⟩
    obtain ⟨k, hk⟩ := hm
    have hall : (opTab.all fun q => decide ((6 ≤ q.2.1 ∧ q.2.1 ≤ 18) ∧ q.2.2 = lvE q.2.1)) = true := by decide
    exact .inr (by simpa using List.all_eq_true.1 hall _ hk)
theorem opAt_all {lvl : Nat} {ts : List Tk} (h : opAt lvl ts ≠ 0) : (6 ≤ opAt lvl ts ∧ opAt lvl ts ≤ 18) ∧ lvE (opAt lvl ts) = lvl ∧ ts.length = ts.tail.length + 1 := by
  cases ts with
  | nil => exact absurd rfl h
  | cons t ts =>
    simp only [opAt] at h ⊢
    split at h
    · split at h
      · rename_i h1 h2
        rw [if_pos h1, if_pos h2]
        rcases opT_all t.text with e | e
        · rw [e] at h; exact absurd rfl h
        · exact ⟨e.1, by rw [← e.2, h2], by simp⟩
      · exact absurd rfl h
    · exact absurd rfl h
theorem isT_len {s : List UInt8} {ts : List Tk} (h : isT s ts = true) : ts.length = ts.tail.length + 1 := by
  cases ts with
  | nil => cases h
  | cons t ts => simp
def leftL (lvl : Nat) : Nat := if lvl = 3 then 4 else lvl
theorem cnt_bin {op : Int} (h : 6 ≤ op ∧ op ≤ 18) {lvl : Nat} (hl : lvE op = lvl) (x y : Xp) : cntX lvl (binX op x y) = cntX (leftL lvl) x + 1 + cntX (lvl + 1) y ∧ cntX (leftL lvl) (binX op x y) ≤ cntX lvl (binX op x y) + 2 := by
  have e : (leftE op : Int) = (leftL lvl : Nat) := by
    unfold leftE leftL
    by_cases h3 : lvl = 3
    · rw [if_pos (by omega), if_pos h3]; rfl
    · rw [if_neg (by omega), if_neg h3, hl]
  refine ⟨?_, (cnt_le (by unfold leftL; split <;> omega) _).2.1⟩
  have e2 : cntX lvl (binX op x y) = (Xp.toks ⟨op, 0, [], true, 1, [x, y]⟩).length := by
    unfold cntX
    rw [put_same (by simp only [binX]; omega)]
    rfl
  rw [e2, toks_bin h, e, hl]
  simp only [List.length_append, List.length_cons, cntX]
  rw [show ((lvl : Int) + 1) = ((lvl + 1 : Nat) : Int) by omega]
  omega
theorem cnt_un {op : Int} (h : op = 4 ∨ op = 5) (x : Xp) : cntX 6 (unX op x) = 1 + cntX 6 x := by
  have hlv : lvE op = 6 := by rcases h with rfl | rfl <;> rfl
  have e2 : cntX 6 (unX op x) = (Xp.toks ⟨op, 0, [], true, 1, [x]⟩).length := by
    unfold cntX
    rw [put_same (by simp only [unX]; omega)]
    rfl
  rw [e2, (txt_un h).2, List.length_cons]
  unfold cntX
  rw [Nat.add_comm]
  rfl
theorem pmin : ∀ n : Nat, (∀ lvl ts x r, lvl ≤ 6 → pe n lvl ts = some (x, r) → r.length + cntX lvl x ≤ ts.length) ∧ (∀ lvl x0 ts x r, lvl ≤ 5 → lp n lvl x0 ts = some (x, r) → r.length + cntX lvl x ≤ ts.length + cntX (leftL lvl) x0) ∧
    (∀ ts x r, pu n ts = some (x, r) → r.length + cntX 6 x ≤ ts.length) ∧ (∀ ts x r, pp n ts = some (x, r) → r.length + cntX 6 x ≤ ts.length)
  | 0 => by
    refine ⟨fun lvl ts x r hl h => ?_, fun lvl x0 ts x r hl h => ?_, fun ts x r h => ?_, fun ts x r h => ?_⟩
    · cases h
    · cases h
    · cases h
    · cases h
  | n + 1 => by
    obtain ⟨ie, il, iu, ip⟩ := pmin n
    refine ⟨fun lvl ts x r hl h => ?_, fun lvl x0 ts x r hl h => ?_, fun ts x r h => ?_, fun ts x r h => ?_⟩
    · rw [pe] at h
      split at h
      · have := iu _ _ _ h
        obtain rfl : lvl = 6 := by omega
        exact this
      · split at h
        · cases h
        · rename_i hl5 y q he
          have h1 := ie _ _ _ _ (by omega) he
          have h2 := il _ _ _ _ _ (by omega) h
          have h3 := (cnt_le (a := leftL lvl) (b := lvl + 1) (by unfold leftL; split <;> omega) y).1
          omega
    · rw [lp] at h
      split at h
      · cases h
        have := (cnt_le (a := lvl) (b := leftL lvl) (by unfold leftL; split <;> omega) x0).1
        omega
      · rename_i ho
        obtain ⟨o1, o2, o3⟩ := opAt_all ho
        split at h
        · cases h
        · rename_i y q he
          have h1 := ie _ _ _ _ (by omega) he
          obtain ⟨c1, c2⟩ := cnt_bin o1 o2 x0 y
          split at h
          · cases h
            omega
          · rename_i h3
            have h2 := il _ _ _ _ _ (by omega) h
            rw [show leftL lvl = lvl by unfold leftL; rw [if_neg h3]] at h2 c1 ⊢
            omega
    · rw [pu] at h
      split at h
      · rename_i ht
        have := isT_len ht
        split at h
        · cases h
        · rename_i y q he
          cases h
          have h1 := iu _ _ _ he
          rw [cnt_un (.inl rfl)]
          omega
      · split at h
        · rename_i ht
          have := isT_len ht
          split at h
          · cases h
          · rename_i y q he
            cases h
            have h1 := iu _ _ _ he
            rw [cnt_un (.inr rfl)]
            omega
        · exact ip _ _ _ h
    · cases ts with
      | nil => cases h
      | cons t ts =>
        rw [pp] at h
        rw [List.length_cons]
        split at h
        · cases h
          unfold cntX
          rw [put_same (by simp [lvE])]
          simp [Xp.toks, combK]
        · split at h
          · split at h
            · rename_i ht
              have := isT_len ht
              split at h
              · cases h
              · rename_i y q he
                split at h
                · rename_i ht2
                  have := isT_len ht2
                  cases h
                  have h1 := ie _ _ _ _ (by omega) he
                  have h2 := (cnt_le (Nat.le_refl 1) y).2.2
                  unfold cntX at h2 ⊢
                  rw [put_same (by simp [lvE])]
                  simp only [Xp.toks, Xp.tokss, combK]
                  simp
                  unfold cntX at h1
                  omega
                · cases h
            · cases h
              unfold cntX
              rw [put_same (by simp [lvE])]
              simp [Xp.toks, combK]
          · split at h
            · split at h
              · cases h
              · rename_i y q he
                split at h
                · rename_i ht2
                  have := isT_len ht2
                  cases h
                  have h1 := ie _ _ _ _ (by omega) he
                  have h2 := (cnt_le (show 1 ≤ 6 by omega) x).2.1
                  omega
                · cases h
            · cases h
/-! parentheses -/
/-- how deep it is behind a text; none: it closes what was open before -/
def bd : Nat → List UInt8 → Option Nat
  | d, [] => some d
  | d, c :: r => if c = 40 then bd (d + 1) r else if c = 41 then (if d ≤ 1 then none else bd (d - 1) r) else bd d r
def bal (l : List UInt8) : Prop := ∀ d, 1 ≤ d → bd d l = some d
theorem bd_app : ∀ (a b : List UInt8) (d : Nat), bd d (a ++ b) = (bd d a).bind fun e => bd e b
  | [], _, _ => rfl
  | c :: a, b, d => by
    simp only [List.cons_append, bd]
    split
    · exact bd_app a b _
    · split
      · split
        · rfl
        · exact bd_app a b _
      · exact bd_app a b _
theorem bal_app {a b : List UInt8} (h1 : bal a) (h2 : bal b) : bal (a ++ b) := fun d hd => by rw [bd_app, h1 d hd]; exact h2 d hd
theorem bal_nil : bal [] := fun _ _ => rfl
theorem bal_c {c : UInt8} (h : c ≠ 40 ∧ c ≠ 41) {l : List UInt8} (hl : bal l) : bal (c :: l) := fun d hd => by
  simp only [bd]
  rw [if_neg h.1, if_neg h.2]
  exact hl d hd
theorem bal_par {l r : List UInt8} (h : bal l) (hr : bal r) : bal (40 :: (l ++ 41 :: r)) := fun d hd => by
  simp only [bd, if_true]
  rw [bd_app, h (d + 1) (by omega)]
  simp only [Option.bind_some, bd]
  rw [if_neg (by decide), if_pos trivial, if_neg (by omega)]
  exact hr d hd
def flatB (l : List UInt8) : Prop := ∀ c ∈ l, c ≠ 40 ∧ c ≠ 41
theorem bal_flat : ∀ {l : List UInt8}, flatB l → bal l
  | [], _ => bal_nil
  | c :: l, h => bal_c (h c List.mem_cons_self) (bal_flat fun d hd => h d (List.mem_cons_of_mem _ hd))
/-- each '(' of a text has its ')', and without both there are two tokens less -/
def Rem (l : List UInt8) (ks : List Kt) : Prop := ∀ i, l[i]? = some 40 → ∃ A B C K, l = A ++ 40 :: (B ++ 41 :: C) ∧ A.length = i ∧ bal B ∧ Tx (A ++ (B ++ C)) K ∧ K.length + 2 = ks.length ∧ headOk (A ++ (B ++ C))
structure GoodT (l : List UInt8) (ks : List Kt) : Prop where
  tx : Tx l ks
  hd : headOk l
  bl : bal l
  rm : Rem l ks
theorem good_put {op : Int} {l : List UInt8} {ks : List Kt} (h : GoodT l ks) (lvl : Int) : GoodT (putE (op, l) lvl) (putK (op, ks) lvl) := by
  refine ⟨tx_put h.tx lvl, head_put h.hd, ?_, ?_⟩
  · unfold putE
    split
    · exact bal_par h.bl bal_nil
    · exact h.bl
  · unfold putE putK
    simp only
    by_cases hl : lvE op < lvl
    · rw [if_pos hl, if_pos hl]
      intro i hi
      cases i with
      | zero =>
        refine ⟨[], l, [], ks, rfl, rfl, h.bl, ?_, by simp, ?_⟩
        · rw [List.nil_append, List.append_nil]; exact h.tx
        · rw [List.nil_append, List.append_nil]; exact h.hd
      | succ i =>
        rw [List.getElem?_cons_succ] at hi
        have hil : i < l.length := by
          rcases Nat.lt_or_ge i l.length with h1 | h1
          · exact h1
          · rw [List.getElem?_append_right h1] at hi
            cases hj : i - l.length with
            | zero => rw [hj] at hi; simp at hi
            | succ j => rw [hj] at hi; simp at hi
        rw [List.getElem?_append_left hil] at hi
        obtain ⟨A, B, C, K, e, hA, hB, hK, hn, hh⟩ := h.rm i hi
        refine ⟨40 :: A, B, C ++ [41], (4, [40]) :: (K ++ [(4, [41])]), by rw [e]; simp, by simp [hA], hB, ?_, by simp; omega, ⟨40, _, rfl, by decide⟩⟩
        intro r hr
        have := hK (41 :: r) (clean_c _ (by decide))
        simp only [List.cons_append, List.append_assoc, List.nil_append] at this ⊢
        rw [sk_solo (by decide), this, sk_solo (by decide)]
        simp only [cons_cons, List.cons_append, List.nil_append, List.append_assoc]
    · rw [if_neg hl, if_neg hl]; exact h.rm
theorem flat_no {l : List UInt8} (h : flatB l) {i : Nat} : l[i]? ≠ some 40 := fun e => (h 40 (List.mem_of_getElem? e)).1 rfl
theorem rem_flat {l : List UInt8} {ks : List Kt} (h : flatB l) : Rem l ks := fun i hi => absurd hi (flat_no h)
theorem inn_flat {l : List UInt8} (h : ∀ c ∈ l, innB c = true) : flatB l := fun c hc => by
  have := h c hc
  constructor
  · rintro rfl; revert this; decide
  · rintro rfl; revert this; decide
theorem sg_flat : ((List.range 18).all fun i => (sgE ((i : Int) + 1)).all fun c => c != 40 && c != 41) = true := by decide
theorem sgE_flat {op : Int} (h : 1 ≤ op ∧ op ≤ 18) : flatB (sgE op) := by
  obtain ⟨i, hi, rfl⟩ := opn_nat h
  intro c hc
  have := List.all_eq_true.1 (List.all_eq_true.1 sg_flat i (List.mem_range.2 hi)) c hc
  simpa using this
theorem good_bin {op : Int} (ho : 6 ≤ op ∧ op ≤ 18) {l1 l2 : List UInt8} {k1 k2 : List Kt} (h1 : GoodT l1 k1) (h2 : GoodT l2 k2) : GoodT (l1 ++ 32 :: (sgE op ++ 32 :: l2)) (k1 ++ (4, sgE op) :: k2) := by
  have hsg := sgE_flat (op := op) (by omega)
  refine ⟨tx_bin ho h1.tx h2.tx, head_app h1.hd _, bal_app h1.bl (bal_c (by decide) (bal_app (bal_flat hsg) (bal_c (by decide) h2.bl))), fun i hi => ?_⟩
  by_cases hl : i < l1.length
  · rw [List.getElem?_append_left hl] at hi
    obtain ⟨A, B, C, K, e, hA, hB, hK, hn, hh⟩ := h1.rm i hi
    refine ⟨A, B, C ++ 32 :: (sgE op ++ 32 :: l2), K ++ (4, sgE op) :: k2, by rw [e]; simp, hA, hB, ?_, by simp; omega, ?_⟩
    · have := tx_bin ho hK h2.tx
      simpa only [List.append_assoc] using this
    · have := head_app hh (32 :: (sgE op ++ 32 :: l2))
      simpa only [List.append_assoc] using this
  · rw [List.getElem?_append_right (by omega)] at hi
    cases hj : i - l1.length with
    | zero => rw [hj] at hi; simp at hi
    | succ j =>
      rw [hj, List.getElem?_cons_succ] at hi
      by_cases hm : j < (sgE op).length
      · rw [List.getElem?_append_left hm] at hi
        exact absurd hi (flat_no hsg)
      · rw [List.getElem?_append_right (by omega)] at hi
        cases hq : j - (sgE op).length with
        | zero => rw [hq] at hi; simp at hi
        | succ q =>
          rw [hq, List.getElem?_cons_succ] at hi
          obtain ⟨A, B, C, K, e, hA, hB, hK, hn, hh⟩ := h2.rm q hi
          refine ⟨l1 ++ 32 :: (sgE op ++ 32 :: A), B, C, k1 ++ (4, sgE op) :: K, by rw [e]; simp, by simp; omega, hB, ?_, by simp; omega, ?_⟩
          · have := tx_bin ho h1.tx hK
            simpa only [List.append_assoc, List.cons_append] using this
          · simp only [List.append_assoc]
            exact head_app h1.hd _
theorem good_un {op : Int} (ho : op = 4 ∨ op = 5) {l : List UInt8} {k : List Kt} (h : GoodT l k) : GoodT (sgE op ++ l) ((4, sgE op) :: k) := by
  have hsg := sgE_flat (op := op) (by omega)
  have hlen : (sgE op).length = 1 := by rcases ho with rfl | rfl <;> rfl
  have hhd : ∀ l : List UInt8, headOk (sgE op ++ l) := fun l => by
    rcases ho with rfl | rfl
    · exact ⟨45, _, rfl, by decide⟩
    · exact ⟨33, _, rfl, by decide⟩
  refine ⟨tx_un ho h.tx h.hd, hhd _, bal_app (bal_flat hsg) h.bl, fun i hi => ?_⟩
  by_cases hl : i < (sgE op).length
  · rw [List.getElem?_append_left hl] at hi
    exact absurd hi (flat_no hsg)
  · rw [List.getElem?_append_right (by omega)] at hi
    obtain ⟨A, B, C, K, e, hA, hB, hK, hn, hh⟩ := h.rm _ hi
    refine ⟨sgE op ++ A, B, C, (4, sgE op) :: K, by rw [e]; simp, by simp; omega, hB, ?_, by simp; omega, ?_⟩
    · have := tx_un ho hK hh
      simpa only [List.append_assoc] using this
    · simp only [List.append_assoc]
      exact hhd _
theorem good_idx {nm l : List UInt8} {k : List Kt} (hn : isNameE nm = true) (h : GoodT l k) : GoodT (nm ++ 91 :: (l ++ [93])) ((1, nm) :: (4, [91]) :: (k ++ [(4, [93])])) := by
  obtain ⟨c, cs, e0, n1, n2, -⟩ := nm_parts hn
  have hf : flatB nm := inn_flat fun d hd => by
    rw [e0] at hd
    rcases List.mem_cons.1 hd with rfl | hd
    · exact (letB_ne n1).2.2.2
    · exact n2 d hd
  refine ⟨tx_idx hn h.tx, head_app (nm_head hn) _, bal_app (bal_flat hf) (bal_c (by decide) (bal_app h.bl (bal_c (by decide) bal_nil))), fun i hi => ?_⟩
  by_cases hl : i < nm.length
  · rw [List.getElem?_append_left hl] at hi
    exact absurd hi (flat_no hf)
  · rw [List.getElem?_append_right (by omega)] at hi
    cases hj : i - nm.length with
    | zero => rw [hj] at hi; simp at hi
    | succ j =>
      rw [hj, List.getElem?_cons_succ] at hi
      have hil : j < l.length := by
        rcases Nat.lt_or_ge j l.length with h1 | h1
        · exact h1
        · rw [List.getElem?_append_right h1] at hi
          cases hq : j - l.length with
          | zero => rw [hq] at hi; simp at hi
          | succ q => rw [hq] at hi; simp at hi
      rw [List.getElem?_append_left hil] at hi
      obtain ⟨A, B, C, K, e, hA, hB, hK, hn2, hh⟩ := h.rm _ hi
      refine ⟨nm ++ 91 :: A, B, C ++ [93], (1, nm) :: (4, [91]) :: (K ++ [(4, [93])]), by rw [e]; simp, by simp; omega, hB, ?_, by simp; omega, ?_⟩
      · have := tx_idx hn hK
        simpa only [List.append_assoc, List.cons_append] using this
      · simp only [List.append_assoc]
        exact head_app (nm_head hn) _
theorem good_txt (hd : DigRT) {x : Xp} (h : ShE x) : GoodT x.txt x.toks := by
  induction h with
  | @num n z t hn =>
    have e1 : Xp.txt ⟨1, n, [], z, t, []⟩ = itoaE n := by simp [Xp.txt, combE]
    obtain ⟨h1, h2⟩ := txt_tx hd (ShE.num (z := z) (t := t) hn)
    obtain ⟨⟨c, cs, e, d1, d2⟩, -⟩ := hd n hn
    have hf : flatB (itoaE n) := inn_flat fun d hd => by
      rw [e] at hd
      rcases List.mem_cons.1 hd with rfl | hd
      · exact (digB_ne d1).2.2.2.2
      · exact (digB_ne (d2 d hd)).2.2.2.2
    rw [e1] at h1 h2 ⊢
    exact ⟨h1, h2, bal_flat hf, rem_flat hf⟩
  | @name nm z t hn =>
    have e1 : Xp.txt ⟨2, 0, nm, z, t, []⟩ = nm := by simp [Xp.txt, combE]
    obtain ⟨h1, h2⟩ := txt_tx hd (ShE.name (z := z) (t := t) hn)
    obtain ⟨c, cs, e0, n1, n2, -⟩ := nm_parts hn
    have hf : flatB nm := inn_flat fun d hd => by
      rw [e0] at hd
      rcases List.mem_cons.1 hd with rfl | hd
      · exact (letB_ne n1).2.2.2
      · exact n2 d hd
    rw [e1] at h1 h2 ⊢
    exact ⟨h1, h2, bal_flat hf, rem_flat hf⟩
  | @idx nm z t a hn ha ih =>
    have e1 : Xp.txt ⟨3, 0, nm, z, t, [a]⟩ = nm ++ 91 :: (a.txt ++ [93]) := by simp [Xp.txt, Xp.txts, combE]
    have e2 : Xp.toks ⟨3, 0, nm, z, t, [a]⟩ = (1, nm) :: (4, [91]) :: (a.toks ++ [(4, [93])]) := by simp [Xp.toks, Xp.tokss, combK]
    rw [e1, e2]
    exact good_idx hn ih
  | @un op z t a hop ha ih =>
    obtain ⟨e1, e2⟩ := txt_un (z := z) (t := t) (a := a) hop
    rw [e1, e2]
    exact good_un hop (good_put ih 6)
  | @bin op z t a b hop ha hb iha ihb =>
    rw [txt_bin hop, toks_bin hop]
    exact good_bin hop (good_put iha _) (good_put ihb _)
/-- without a pair of parentheses the text is another expression or none -/
theorem needed (hd : DigRT) {x : Xp} (h : ShE x) {i : Nat} (hi : x.txt[i]? = some 40) : ∃ A B C, x.txt = A ++ 40 :: (B ++ 41 :: C) ∧ A.length = i ∧ bal B ∧ ∀ y, pexprE (A ++ (B ++ C)) = some y → sameX x y = false := by
  obtain ⟨A, B, C, K, e, hA, hB, hK, hn, -⟩ := (good_txt hd h).rm i hi
  refine ⟨A, B, C, e, hA, hB, fun y hy => ?_⟩
  cases hs : sameX x y with
  | false => rfl
  | true =>
    obtain ⟨-, h1, -⟩ := same_toks x y hs
    unfold pexprE at hy
    split at hy
    · cases hy
    · have h2 := hK [] clean_nil
      rw [List.append_nil, sk_nil] at h2
      unfold scanK kts at h2
      split at hy
      · cases hy
      · rename_i ts hts
        rw [hts] at h2
        simp only [Option.map_some, cons, List.append_nil, Option.some.injEq] at h2
        have h3 := len_k h2
        split at hy
        · rename_i z hz
          cases hy
          have h4 := (pmin _).1 _ _ _ _ (by omega) hz
          have h5 := (cnt_le (Nat.le_refl 1) y).2.2
          rw [h1] at hn
          simp only [List.length_nil] at h4
          omega
        · cases hy
end Go.Proofs.YtlehfgdhebapeaaGreatDoor.KM
