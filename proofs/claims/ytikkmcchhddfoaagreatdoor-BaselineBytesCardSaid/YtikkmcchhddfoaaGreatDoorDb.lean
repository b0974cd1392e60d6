/- Plain: what the reference's decoder of baselines reads. -/
import Derived.Test.YtikkmcchhddfoaaGreatDoorDa
set_option linter.all false
namespace Go.Proofs.YtikkmcchhddfoaaGreatDoor.KM
open Go
abbrev RS := List Int × Bool
def numS (most : Int) (s : RS) : Int × RS :=
  if s.2 then (0, s) else
    match intA s.1 with
    | some (n, k) => if 0 ≤ n ∧ n ≤ most then (n, (s.1.drop k, false)) else (0, (s.1, true))
    | none => (0, (s.1, true))
def textS (s : RS) : List UInt8 × RS :=
  if (numS (s.1.length : Int) s).2.2 = true ∨ ((numS (s.1.length : Int) s).2.1.length : Int) < (numS (s.1.length : Int) s).1 then ([], ((numS (s.1.length : Int) s).2.1, true))
  else (byt ((numS (s.1.length : Int) s).2.1.take (numS (s.1.length : Int) s).1.toNat), ((numS (s.1.length : Int) s).2.1.drop (numS (s.1.length : Int) s).1.toNat, false))
def keyS (s : RS) : Key × RS :=
  (((textS (numS 60 s).2).1, (textS (textS (numS 60 s).2).2).1, (numS 60 s).1), (textS (textS (numS 60 s).2).2).2)
def keysS : Nat → RS → List Key × RS
  | 0, s => ([], s)
  | c + 1, s => if s.2 then ([], s) else ((keyS s).1 :: (keysS c (keyS s).2).1, (keysS c (keyS s).2).2)
def entS (s : RS) : Ent × RS :=
  let a := numS 9 s
  let b := numS 1073741824 a.2
  let c := numS 9 b.2
  let d := numS 4 c.2
  let k := keysS d.1.toNat d.2
  (⟨a.1, k.1, b.1, c.1, true, 0⟩, k.2)
def entsS : Nat → RS → List Ent × RS
  | 0, s => ([], s)
  | c + 1, s => if s.2 then ([], s) else ((entS s).1 :: (entsS c (entS s).2).1, (entsS c (entS s).2).2)
def decS (l : List Int) : (Int × List Ent) × RS :=
  let a := numS 1073741824 (l.drop 4, false)
  let c := numS 64 a.2
  let e := entsS c.1.toNat c.2
  ((a.1, e.1), e.2)
theorem numS_var {n most : Int} (h0 : 0 ≤ n) (h1 : n ≤ most) (h2 : most < 4611686018427387904) (r : List Int) : numS most (varL n ++ r, false) = (n, (r, false)) := by
  unfold numS
  rw [if_neg (by simp)]
  simp only
  rw [intA_var h0 (by omega)]
  simp only
  rw [if_pos ⟨h0, h1⟩, List.drop_left]
theorem textS_var {s : List UInt8} (h : s.length < 4611686018427387904) (r : List Int) : textS (varL (s.length : Int) ++ (strI s ++ r), false) = (s, (r, false)) := by
  have hl : (strI s).length = s.length := List.length_map ..
  have hn : numS ((varL (s.length : Int) ++ (strI s ++ r), false) : RS).1.length (varL (s.length : Int) ++ (strI s ++ r), false) = ((s.length : Int), (strI s ++ r, false)) := by
    unfold numS
    rw [if_neg (by simp)]
    simp only
    rw [intA_var (by omega) (by omega)]
    simp only
    rw [if_pos ⟨by omega, by simp only [List.length_append, hl]; omega⟩, List.drop_left]
  unfold textS
  rw [hn]
  simp only [Int.toNat_natCast]
  rw [if_neg (by simp only [List.length_append, hl]; simp; omega)]
  rw [← hl, List.take_left, List.drop_left, byt_str]
theorem keyS_var {k : Key} (h : keyB k = true) (r : List Int) : keyS (keyBy k ++ r, false) = (k, (r, false)) := by
  obtain ⟨h1, h2⟩ := keyB_len h
  unfold keyB at h
  simp only [Bool.and_eq_true, decide_eq_true_eq] at h
  unfold keyS keyBy varsL
  simp only [List.map_cons, List.map_nil, List.flatten_cons, List.flatten_nil, List.append_nil, List.append_assoc]
  rw [numS_var h.1.2 (by omega) (by decide)]
  simp only
  rw [textS_var (by omega)]
  simp only
  rw [textS_var (by omega)]
theorem keysS_var : ∀ (ks : List Key) (r : List Int), (∀ k ∈ ks, keyB k = true) → keysS ks.length ((ks.map keyBy).flatten ++ r, false) = (ks, (r, false))
  | [], r, _ => rfl
  | k :: ks, r, h => by
    simp only [List.length_cons, List.map_cons, List.flatten_cons, List.append_assoc, keysS]
    rw [if_neg (by simp), keyS_var (h k List.mem_cons_self)]
    simp only
    rw [keysS_var ks r fun x hx => h x (List.mem_cons_of_mem _ hx)]
theorem entS_var {e : Ent} (h : okV e) (ho : e.own = e) (r : List Int) : entS (entBy e ++ r, false) = (e, (r, false)) := by
  have hk := okV_keys h
  unfold okV entB kindB numB at h
  simp only [Bool.and_eq_true, Bool.or_eq_true, beq_iff_eq, decide_eq_true_eq] at h
  obtain ⟨⟨h1, -⟩, h2⟩ := h
  unfold entS entBy varsL
  simp only [List.map_cons, List.map_nil, List.flatten_cons, List.flatten_nil, List.append_nil, List.append_assoc]
  rw [numS_var (by omega) (by omega) (by decide)]
  simp only
  rw [numS_var (by omega) (by omega) (by decide)]
  simp only
  rw [numS_var (by omega) (by omega) (by decide)]
  simp only
  rw [numS_var (by omega) (by omega) (by decide)]
  simp only [Int.toNat_natCast]
  rw [keysS_var e.sites r hk]
  simp only
  rw [show (⟨e.kind, e.sites, e.seen, e.missed, true, 0⟩ : Ent) = e from ho]
theorem entsS_var : ∀ (es : List Ent) (r : List Int), (∀ e ∈ es, okV e ∧ e.own = e) → entsS es.length ((es.map entBy).flatten ++ r, false) = (es, (r, false))
  | [], r, _ => rfl
  | e :: es, r, h => by
    simp only [List.length_cons, List.map_cons, List.flatten_cons, List.append_assoc, entsS]
    rw [if_neg (by simp), entS_var (h e List.mem_cons_self).1 (h e List.mem_cons_self).2]
    simp only
    rw [entsS_var es r fun x hx => h x (List.mem_cons_of_mem _ hx)]
theorem decS_body {n : Int} {b : List Ent} (h : validB n b = true) (ho : ∀ e ∈ b, e.own = e) : decS (bodyI n b) = ((n, b), ([], false)) := by
  obtain ⟨b1, b2, b3, b4, b5⟩ := valid_parts h
  unfold decS bodyI varsL
  simp only [List.map_cons, List.map_nil, List.flatten_cons, List.flatten_nil, List.append_nil, List.append_assoc]
  have e : ([73, 66, 76, 49] ++ (varL n ++ (varL (b.length : Int) ++ (b.map entBy).flatten)) : List Int).drop 4 = varL n ++ (varL (b.length : Int) ++ (b.map entBy).flatten) := rfl
  rw [e, numS_var (by omega) (by omega) (by decide)]
  simp only
  rw [numS_var (by omega) (by omega) (by decide)]
  simp only [Int.toNat_natCast]
  have := entsS_var b [] fun e he => ⟨b3 e he, ho e he⟩
  rw [List.append_nil] at this
  rw [this]
/-! both decoders behind the check of the sum -/
def resDA (x : List Int) (b : List Int) : (Int × List Ent) × Int :=
  match decA b with
  | some p => if validB p.1 p.2 = true ∧ encI p.1 p.2 = x then (p, 0) else ((0, []), 11)
  | none => ((0, []), 11)
def resDS (x : List Int) (b : List Int) : (Int × List Ent) × Int :=
  if (decS b).2.2 = false ∧ validB (decS b).1.1 (decS b).1.2 = true ∧ encI (decS b).1.1 (decS b).1.2 = x then ((decS b).1, 0) else ((0, []), 11)
theorem enc_body {n : Int} {es : List Ent} {b s : List Int} (hs : s.length = 4) (h : encI n es = b ++ s) : bodyI n es = b := by
  unfold encI at h
  exact (List.append_inj' h (by rw [hs]; rfl)).1
theorem entR_own {l : List Int} {e : Ent} {r : List Int} (h : entR l = some (e, r)) : e.own = e := by
  unfold entR at h
  repeat' split at h
  all_goals first | cases h | skip
  all_goals rfl
theorem entsR_own : ∀ (c : Nat) (l : List Int) (es : List Ent) (r : List Int), entsR c l = some (es, r) → ∀ e ∈ es, e.own = e
  | 0, l, es, r, h => by cases h; exact fun e he => absurd he List.not_mem_nil
  | c + 1, l, es, r, h => by
    simp only [entsR] at h
    split at h
    · rename_i e r1 h1
      split at h
      · rename_i es' r2 h2
        cases h
        intro x hx
        rcases List.mem_cons.1 hx with rfl | hx
        · exact entR_own h1
        · exact entsR_own c _ _ _ h2 x hx
      · cases h
    · cases h
theorem decA_own {l : List Int} {p : Int × List Ent} (h : decA l = some p) : ∀ e ∈ p.2, e.own = e := by
  unfold decA at h
  repeat' split at h
  all_goals first | cases h | skip
  rename_i h1 _ _ _
  exact fun e he => by
    rename_i hh
    first
    | exact entsR_own _ _ _ _ hh e he
    | exact entsR_own _ _ _ _ h1 e he
theorem entsS_own : ∀ (c : Nat) (s : RS), ∀ e ∈ (entsS c s).1, e.own = e
  | 0, s => fun e he => absurd he List.not_mem_nil
  | c + 1, s => by
    intro e he
    rw [entsS] at he
    split at he
    · exact absurd he List.not_mem_nil
    · rcases List.mem_cons.1 he with rfl | he
      · rfl
      · exact entsS_own c _ e he
/-- THE SAME: only the bytes of a valid baseline are read, and both read those -/
theorem res_same (b s : List Int) (hs : s.length = 4) : resDS (b ++ s) b = resDA (b ++ s) b := by
  unfold resDS resDA
  by_cases hS : (decS b).2.2 = false ∧ validB (decS b).1.1 (decS b).1.2 = true ∧ encI (decS b).1.1 (decS b).1.2 = b ++ s
  · rw [if_pos hS]
    have hb := enc_body hs hS.2.2
    have ho : ∀ e ∈ (decS b).1.2, e.own = e := entsS_own _ _
    have := decA_body hS.2.1 ho
    rw [hb] at this
    rw [this]
    simp only
    rw [if_pos ⟨hS.2.1, hS.2.2⟩]
  · rw [if_neg hS]
    cases hA : decA b with
    | none => rfl
    | some p =>
      simp only
      by_cases hv : validB p.1 p.2 = true ∧ encI p.1 p.2 = b ++ s
      · have hb := enc_body hs hv.2
        have := decS_body hv.1 (decA_own hA)
        rw [hb] at this
        exact absurd (by rw [this]; exact ⟨rfl, hv.1, hv.2⟩) hS
      · rw [if_neg hv]
end Go.Proofs.YtikkmcchhddfoaaGreatDoor.KM
