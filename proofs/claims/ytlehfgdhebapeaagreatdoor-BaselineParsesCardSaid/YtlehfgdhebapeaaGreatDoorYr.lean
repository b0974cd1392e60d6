/- Plain: what both parsers of baselines read. -/
import Derived.Test.YtlehfgdhebapeaaGreatDoorYq
import Derived.Test.YtlehfgdhebapeaaGreatDoorPf
import Derived.Test.YtlehfgdhebapeaaGreatDoorPn
set_option linter.all false
namespace Go.Proofs.YtlehfgdhebapeaaGreatDoor.KM
open Go
/-! numbers read back -/
theorem decE_dig : ∀ (k u : Nat), ∀ c ∈ decE k u, 48 ≤ c.toNat ∧ c.toNat ≤ 57
  | 0, u, c, h => by cases h
  | k + 1, u, c, h => by
    unfold decE at h
    split at h
    · rw [List.mem_singleton.1 h, UInt8.toNat_ofNat']
      omega
    · rcases List.mem_append.1 h with h | h
      · exact decE_dig k _ c h
      · rw [List.mem_singleton.1 h, UInt8.toNat_ofNat']
        omega
theorem decE_ne (k u : Nat) : decE (k + 1) u ≠ [] := by
  unfold decE
  split
  · simp
  · simp
theorem parse_dec : ∀ (k u : Nat) (r : List UInt8), u < 10 ^ (k + 1) → u < 18446744073709551616 → Lib.parseUint10 0 (decE (k + 1) u ++ r) = Lib.parseUint10 u r
  | k, u, r, hu, hm => by
    unfold decE
    by_cases h : u < 10
    · rw [if_pos h]
      have e : (UInt8.ofNat (48 + u)).toNat = 48 + u := by rw [UInt8.toNat_ofNat']; omega
      simp only [List.cons_append, List.nil_append, Lib.parseUint10, e]
      rw [if_pos (by omega), if_neg (by omega), if_neg (by omega), show 0 * 10 + (48 + u - 48) = u by omega]
    · rw [if_neg h]
      match k, hu with
      | 0, hu => omega
      | k + 1, hu =>
        rw [List.append_assoc, parse_dec k (u / 10) _ (by rw [Nat.pow_succ] at hu; omega) (by omega)]
        have e : (UInt8.ofNat (48 + u % 10)).toNat = 48 + u % 10 := by rw [UInt8.toNat_ofNat']; omega
        simp only [List.cons_append, List.nil_append, Lib.parseUint10, e]
        rw [if_pos (by omega), if_neg (by omega), if_neg (by omega), show u / 10 * 10 + (48 + u % 10 - 48) = u by omega]
theorem atoi_itoa {n : Int} (h : I64 n) : Lib.atoiAll (itoaE n) = .ok n := by
  have hp : ∀ u : Nat, u ≤ 9223372036854775808 → Lib.parseMag (decE 20 u) = .ok u := fun u hu => by
    unfold Lib.parseMag
    rw [if_neg (decE_ne 19 u)]
    have := parse_dec 19 u [] (by omega) (by omega)
    rw [List.append_nil] at this
    rw [this]
    rfl
  unfold I64 at h
  unfold itoaE
  by_cases hn : n < 0
  · rw [if_pos hn]
    have := hp n.natAbs (by omega)
    simp only [Lib.atoiAll]
    rw [if_pos (.inr (by decide)), this]
    simp only
    rw [if_neg (by simp), if_neg (by omega), if_pos (by decide)]
    congr 1
    omega
  · rw [if_neg hn]
    have := hp n.toNat (by omega)
    have hne := decE_ne 19 n.toNat
    have hdig := decE_dig 20 n.toNat
    generalize hL : decE 20 n.toNat = L at this hne hdig
    match L, hne with
    | c :: r, _ =>
      have hc := hdig c List.mem_cons_self
      simp only [Lib.atoiAll]
      rw [if_neg (by omega), this]
      simp only
      rw [if_neg (by omega), if_neg (by omega), if_neg (by omega)]
      congr 1
      omega
theorem itoa_chars {n : Int} : ∀ c ∈ itoaE n, c ≠ 10 ∧ c ≠ 32 := by
  intro c hc
  have key : 45 ≤ c.toNat := by
    unfold itoaE at hc
    split at hc
    · rcases List.mem_cons.1 hc with rfl | hc
      · decide
      · have := decE_dig _ _ c hc; omega
    · have := decE_dig _ _ c hc; omega
  constructor <;> (rintro rfl; revert key; decide)
/-! lines -/
theorem keyB_chars {k : Key} (h : keyB k = true) : (∀ c ∈ k.1, c ≠ 10 ∧ c ≠ 32) ∧ (10 : UInt8) ∉ k.2.1 ∧ I64 k.2.2 := by
  unfold keyB at h
  simp only [Bool.and_eq_true, decide_eq_true_eq] at h
  obtain ⟨⟨⟨h1, h2⟩, h3⟩, h4⟩ := h
  refine ⟨fun c hc => ?_, fun hc => ?_, by unfold I64; omega⟩
  · unfold isNameE at h1
    simp only [Bool.and_eq_true, decide_eq_true_eq] at h1
    obtain ⟨i, hi, rfl⟩ := List.getElem_of_mem hc
    have hm := List.all_eq_true.1 h1.2.2.2 i (List.mem_range.2 hi)
    unfold nmC at hm
    rw [List.getD_eq_getElem?_getD, List.getElem?_eq_getElem hi, Option.getD_some] at hm
    constructor <;> (intro e; rw [e] at hm; revert hm; simp [letN, digN])
  · unfold textB at h2
    simp only [Bool.and_eq_true] at h2
    have := List.all_eq_true.1 h2.2 10 hc
    revert this
    decide
def keyLine (k : Key) : List UInt8 := 115 :: 105 :: 116 :: 101 :: 32 :: (itoaE k.2.2 ++ 32 :: (k.1 ++ 32 :: k.2.1))
def headLine (e : Ent) : List UInt8 := 101 :: 110 :: 116 :: 114 :: 121 :: 32 :: (itoaE e.kind ++ 32 :: (itoaE e.seen ++ 32 :: itoaE e.missed))
def firstLine (n : Int) : List UInt8 := 98 :: 97 :: 115 :: 101 :: 108 :: 105 :: 110 :: 101 :: 32 :: itoaE n
theorem key_line (k : Key) (r : List UInt8) : keyText k ++ r = keyLine k ++ 10 :: r := by simp [keyText, keyLine]
theorem head_line (e : Ent) (r : List UInt8) : headText e ++ r = headLine e ++ 10 :: r := by simp [headText, headLine]
theorem first_line (n : Int) (r : List UInt8) : firstText n ++ r = firstLine n ++ 10 :: r := by simp [firstText, firstLine]
theorem first_no (n : Int) : (10 : UInt8) ∉ firstLine n := by
  intro h
  unfold firstLine at h
  simp only [List.mem_cons] at h
  rcases h with h | h | h | h | h | h | h | h | h | h <;> first | (exact absurd h (by decide)) | exact (itoa_chars _ h).1 rfl
theorem head_no (e : Ent) : (10 : UInt8) ∉ headLine e := by
  intro h
  unfold headLine at h
  simp only [List.mem_cons, List.mem_append] at h
  rcases h with h | h | h | h | h | h | h | h | h | h | h <;> first | (exact absurd h (by decide)) | exact (itoa_chars _ h).1 rfl
theorem key_no {k : Key} (hk : keyB k = true) : (10 : UInt8) ∉ keyLine k := by
  obtain ⟨h1, h2, -⟩ := keyB_chars hk
  intro h
  unfold keyLine at h
  simp only [List.mem_cons, List.mem_append] at h
  rcases h with h | h | h | h | h | h | h | h | h | h <;> first | (exact absurd h (by decide)) | exact (itoa_chars _ h).1 rfl | exact (h1 _ h).1 rfl | exact h2 h
/-! a line's fields -/
def flds (n : Nat) (s : List UInt8) : List (List UInt8) := spl 32 (min n (s.length + 1) - 1) s
theorem no32 {s : List UInt8} (h : ∀ c ∈ s, c ≠ 10 ∧ c ≠ 32) : (32 : UInt8) ∉ s := fun hm => (h _ hm).2 rfl
theorem flds_key {k : Key} (hk : keyB k = true) : flds 4 (keyLine k) = [[115, 105, 116, 101], itoaE k.2.2, k.1, k.2.1] := by
  obtain ⟨h1, -, -⟩ := keyB_chars hk
  unfold flds
  have hm : min 4 ((keyLine k).length + 1) - 1 = 3 := by simp [keyLine] <;> omega
  rw [hm]
  have e : keyLine k = [115, 105, 116, 101] ++ 32 :: (itoaE k.2.2 ++ 32 :: (k.1 ++ 32 :: k.2.1)) := rfl
  rw [e, spl_hit (by decide), spl_hit (no32 itoa_chars), spl_hit (no32 h1), spl_zero]
theorem flds_head (e : Ent) : flds 4 (headLine e) = [[101, 110, 116, 114, 121], itoaE e.kind, itoaE e.seen, itoaE e.missed] := by
  unfold flds
  have hm : min 4 ((headLine e).length + 1) - 1 = 3 := by simp [headLine] <;> omega
  rw [hm]
  have e : headLine e = [101, 110, 116, 114, 121] ++ 32 :: (itoaE e.kind ++ 32 :: (itoaE e.seen ++ 32 :: itoaE e.missed)) := rfl
  rw [e, spl_hit (by decide), spl_hit (no32 itoa_chars), spl_hit (no32 itoa_chars), spl_zero]
theorem flds_first (n : Int) : flds 2 (firstLine n) = [[98, 97, 115, 101, 108, 105, 110, 101], itoaE n] := by
  unfold flds
  have hm : min 2 ((firstLine n).length + 1) - 1 = 1 := by simp [firstLine] <;> omega
  rw [hm]
  have e : firstLine n = [98, 97, 115, 101, 108, 105, 110, 101] ++ 32 :: itoaE n := rfl
  rw [e, spl_hit (by decide), spl_zero]
/-! the program's parser -/
def addSite (k : Key) : List Ent → List Ent
  | [] => []
  | [e] => [{ e with sites := e.sites ++ [k] }]
  | e :: r => e :: addSite k r
theorem addSite_app (k : Key) (e : Ent) : ∀ l : List Ent, addSite k (l ++ [e]) = l ++ [{ e with sites := e.sites ++ [k] }]
  | [] => rfl
  | [a] => rfl
  | a :: b :: l => by
    have := addSite_app k e (b :: l)
    simp only [List.cons_append] at this ⊢
    rw [addSite, this]
    simp
def nEnt (a b c : Int) : Ent := ⟨a, [], b, c, true, 0⟩
def okA (s : List UInt8) : Bool := match Lib.atoiAll s with
  | .ok _ => true
  | _ => false
def numA (s : List UInt8) : Int := match Lib.atoiAll s with
  | .ok v => v
  | Lib.NumEnd.syntax => 0
  | .range => Lib.atoiSat s
theorem okA_itoa {n : Int} (h : I64 n) : okA (itoaE n) = true := by
  unfold okA
  rw [atoi_itoa h]
theorem numA_itoa {n : Int} (h : I64 n) : numA (itoaE n) = n := by
  unfold numA
  rw [atoi_itoa h]
def lineA (l : List Ent) (s : List UInt8) : Option (List Ent) :=
  match flds 4 s with
  | [w, a, b, c] =>
    if w = [101, 110, 116, 114, 121] then
      if (okA a && (okA b && okA c)) = true then some (l ++ [nEnt (numA a) (numA b) (numA c)]) else none
    else if w = [115, 105, 116, 101] then
      if okA a = true then (if l = [] then none else some (addSite (b, c, numA a) l)) else none
    else none
  | _ => none
def runA : Nat → List Ent → List UInt8 → Option (List Ent)
  | 0, _, _ => none
  | f + 1, l, s => if s = [] then some l else
    match lineA l (Lib.cut s [10]).1 with
    | some l' => runA f l' (Lib.cut s [10]).2.1
    | none => none
def headB : List UInt8 := [98, 97, 115, 101, 108, 105, 110, 101, 32]
def parseA (s : List UInt8) : Option (Int × List Ent) :=
  if (Lib.hasPrefix (Lib.cut s [10]).1 headB && okA (Lib.trimPrefix (Lib.cut s [10]).1 headB)) = true then
    (runA ((Lib.cut s [10]).2.1.length + 1) [] (Lib.cut s [10]).2.1).map fun l => (numA (Lib.trimPrefix (Lib.cut s [10]).1 headB), l)
  else none
theorem lineA_head (l : List Ent) (e : Ent) (h1 : I64 e.kind) (h2 : I64 e.seen) (h3 : I64 e.missed) : lineA l (headLine e) = some (l ++ [nEnt e.kind e.seen e.missed]) := by
  unfold lineA
  rw [flds_head]
  simp only [okA_itoa h1, okA_itoa h2, okA_itoa h3, numA_itoa h1, numA_itoa h2, numA_itoa h3, Bool.and_self, if_true]
theorem lineA_key (l : List Ent) (e : Ent) {k : Key} (hk : keyB k = true) : lineA (l ++ [e]) (keyLine k) = some (l ++ [{ e with sites := e.sites ++ [k] }]) := by
  unfold lineA
  rw [flds_key hk]
  simp only [okA_itoa (keyB_chars hk).2.2, numA_itoa (keyB_chars hk).2.2, addSite_app, if_true]
  rw [if_neg (by decide), if_neg (by simp)]
theorem runA_keys (l : List Ent) : ∀ (ks : List Key) (e : Ent) (f : Nat) (r : List UInt8), (∀ k ∈ ks, keyB k = true) → ((ks.map keyText).flatten ++ r).length < f → ∃ f', r.length < f' ∧ runA f (l ++ [e]) ((ks.map keyText).flatten ++ r) = runA f' (l ++ [{ e with sites := e.sites ++ ks }]) r
  | [], e, f, r, _, hf => ⟨f, by simpa using hf, by simp⟩
  | k :: ks, e, f, r, hk, hf => by
    have hk1 := hk k List.mem_cons_self
    match f, hf with
    | f + 1, hf =>
      simp only [List.map_cons, List.flatten_cons, List.append_assoc] at hf ⊢
      rw [key_line] at hf ⊢
      obtain ⟨f', g1, g2⟩ := runA_keys l ks { e with sites := e.sites ++ [k] } f r (fun x hx => hk x (List.mem_cons_of_mem _ hx)) (by simp at hf ⊢; omega)
      refine ⟨f', g1, ?_⟩
      rw [runA, if_neg (by simp [keyLine]), cut_hit (key_no hk1)]
      simp only [lineA_key l e hk1]
      rw [g2]
      simp
theorem runA_ents : ∀ (es l : List Ent) (f : Nat), (∀ e ∈ es, e.own = e ∧ EntOk e ∧ ∀ k ∈ e.sites, keyB k = true) → ((es.map entText).flatten).length < f → runA f l (es.map entText).flatten = some (l ++ es)
  | [], l, f + 1, _, _ => by
    simp [runA]
  | e :: es, l, f + 1, he, hf => by
    obtain ⟨o1, o2, o3⟩ := he e List.mem_cons_self
    simp only [List.map_cons, List.flatten_cons, entText, List.append_assoc] at hf ⊢
    rw [head_line] at hf ⊢
    rw [runA, if_neg (by simp [headLine]), cut_hit (head_no e)]
    simp only [lineA_head l e o2.1 o2.2.1 o2.2.2.1]
    obtain ⟨f', g1, g2⟩ := runA_keys l e.sites (nEnt e.kind e.seen e.missed) f ((es.map entText).flatten) o3 (by simp at hf ⊢; omega)
    rw [g2, runA_ents es _ f' (fun x hx => he x (List.mem_cons_of_mem _ hx)) g1]
    have : ({ nEnt e.kind e.seen e.missed with sites := (nEnt e.kind e.seen e.missed).sites ++ e.sites } : Ent) = e := o1
    rw [this]
    simp
theorem ent_texts {n : Int} {l : List Ent} (h : validB n l = true) : ∀ e ∈ l, EntOk e ∧ ∀ k ∈ e.sites, keyB k = true := by
  intro e he
  unfold validB at h
  simp only [Bool.and_eq_true] at h
  have hb := validL_ent h.2 e he
  unfold entB numB at hb
  simp only [Bool.and_eq_true, decide_eq_true_eq] at hb
  have hk : ∀ k ∈ e.sites, keyB k = true := List.all_eq_true.1 hb.1.2
  refine ⟨⟨?_, by unfold I64; omega, by unfold I64; omega, fun k hk' => (keyB_chars (hk k hk')).2.2⟩, hk⟩
  have := hb.1.1
  unfold kindB at this
  simp only [Bool.or_eq_true, Bool.and_eq_true, beq_iff_eq] at this
  unfold I64
  omega
theorem valid_i64 {n : Int} {l : List Ent} (h : validB n l = true) : I64 n := by
  unfold validB at h
  simp only [Bool.and_eq_true, decide_eq_true_eq] at h
  unfold I64
  omega
theorem parseA_text {n : Int} {l : List Ent} (h : validB n l = true) (ho : ∀ e ∈ l, e.own = e) : parseA (baseText n l) = some (n, l) := by
  have ht := ent_texts h
  have hn := valid_i64 h
  unfold parseA baseText
  rw [first_line, cut_hit (first_no n)]
  have h1 : Lib.hasPrefix (firstLine n) headB = true := by
    show List.isPrefixOf _ (headB ++ itoaE n) = true
    simp [List.isPrefixOf_iff_prefix]
  have h2 : Lib.trimPrefix (firstLine n) headB = itoaE n := by
    unfold Lib.trimPrefix
    rw [h1, if_pos rfl]
    rfl
  simp only [h1, h2, okA_itoa hn, numA_itoa hn, Bool.and_self, if_true]
  rw [runA_ents l [] _ (fun e he => ⟨ho e he, ht e he⟩) (Nat.lt_succ_self _)]
  rfl
/-! the reference's parser -/
def fldB (s w : List UInt8) (n : Nat) : Option (List (List UInt8)) :=
  match flds (n + 1) s with
  | a :: r => if r.length = n ∧ a = w then some r else none
  | [] => none
def lineB (i : Nat) (p : Int × List Ent) (s : List UInt8) : Int × List Ent :=
  match fldB s [98, 97, 115, 101, 108, 105, 110, 101] 1, fldB s [101, 110, 116, 114, 121] 3, fldB s [115, 105, 116, 101] 3 with
  | x, y, z =>
    if i = 0 ∧ x.isSome then (match x with
      | some (a :: _) => (numA a, p.2)
      | _ => p)
    else if y.isSome then (match y with
      | some (a :: b :: c :: _) => (p.1, p.2 ++ [nEnt (numA a) (numA b) (numA c)])
      | _ => p)
    else if z.isSome ∧ p.2 ≠ [] then (match z with
      | some (a :: b :: c :: _) => (p.1, addSite (b, c, numA a) p.2)
      | _ => p)
    else p
def runB : Nat → Int × List Ent → List (List UInt8) → Int × List Ent
  | _, p, [] => p
  | i, p, s :: r => runB (i + 1) (lineB i p s) r
def linesB (s : List UInt8) : List (List UInt8) := spl 10 (Lib.countB ⟨s.toArray⟩ ⟨#[10]⟩) s
def parseB (s : List UInt8) : Int × List Ent := runB 0 (0, []) (linesB s)
theorem countB_list (s : List UInt8) (c : UInt8) : Lib.countB ⟨s.toArray⟩ ⟨#[c]⟩ = s.count c := by
  rw [← Lib.count_one c s] <;> rfl
theorem lines_hit {a r : List UInt8} (h : (10 : UInt8) ∉ a) : linesB (a ++ 10 :: r) = a :: linesB r := by
  unfold linesB
  rw [countB_list, countB_list, List.count_append, List.count_eq_zero.2 h, List.count_cons_self, Nat.zero_add, spl_hit h]
theorem lines_nil : linesB [] = [[]] := by
  unfold linesB
  rw [spl_miss (by simp)]
theorem lineB_head (i : Nat) (p : Int × List Ent) (e : Ent) (h1 : I64 e.kind) (h2 : I64 e.seen) (h3 : I64 e.missed) : lineB i p (headLine e) = (p.1, p.2 ++ [nEnt e.kind e.seen e.missed]) := by
  have hx : fldB (headLine e) [98, 97, 115, 101, 108, 105, 110, 101] 1 = none := by
    unfold fldB flds
    have hm : min (1 + 1) ((headLine e).length + 1) - 1 = 1 := by simp [headLine] <;> omega
    have e : headLine e = [101, 110, 116, 114, 121] ++ 32 :: (itoaE e.kind ++ 32 :: (itoaE e.seen ++ 32 :: itoaE e.missed)) := rfl
    rw [hm, e, spl_hit (by decide)]
    simp
  have hy : fldB (headLine e) [101, 110, 116, 114, 121] 3 = some [itoaE e.kind, itoaE e.seen, itoaE e.missed] := by
    unfold fldB
    rw [flds_head]
    rfl
  unfold lineB
  simp only [hx, hy, Option.isSome_none, Option.isSome_some, Bool.false_eq_true, and_false, if_false, if_true, numA_itoa h1, numA_itoa h2, numA_itoa h3]
theorem lineB_key (i : Nat) (n : Int) (l : List Ent) (e : Ent) {k : Key} (hk : keyB k = true) : lineB i (n, l ++ [e]) (keyLine k) = (n, l ++ [{ e with sites := e.sites ++ [k] }]) := by
  have hx : fldB (keyLine k) [98, 97, 115, 101, 108, 105, 110, 101] 1 = none := by
    unfold fldB flds
    have hm : min (1 + 1) ((keyLine k).length + 1) - 1 = 1 := by simp [keyLine] <;> omega
    have e : keyLine k = [115, 105, 116, 101] ++ 32 :: (itoaE k.2.2 ++ 32 :: (k.1 ++ 32 :: k.2.1)) := rfl
    rw [hm, e, spl_hit (by decide)]
    simp
  have hy : fldB (keyLine k) [101, 110, 116, 114, 121] 3 = none := by
    unfold fldB
    rw [flds_key hk]
    simp
  have hz : fldB (keyLine k) [115, 105, 116, 101] 3 = some [itoaE k.2.2, k.1, k.2.1] := by
    unfold fldB
    rw [flds_key hk]
    rfl
  unfold lineB
  simp only [hx, hy, hz, Option.isSome_none, Option.isSome_some, Bool.false_eq_true, and_false, if_false, true_and, numA_itoa (keyB_chars hk).2.2, addSite_app]
  rw [if_pos (by simp)]
theorem lineB_nil (i : Nat) (p : Int × List Ent) : lineB i p [] = p := by
  have hf : ∀ (w : List UInt8) (n : Nat), 1 ≤ n → fldB [] w n = none := fun w n hn => by
    unfold fldB flds
    rw [spl_miss (by simp)]
    simp
    omega
  unfold lineB
  simp [hf]
theorem runB_keys (n : Int) (l : List Ent) : ∀ (ks : List Key) (e : Ent) (i : Nat) (r : List UInt8), (∀ k ∈ ks, keyB k = true) → ∃ j, i ≤ j ∧ runB i (n, l ++ [e]) (linesB ((ks.map keyText).flatten ++ r)) = runB j (n, l ++ [{ e with sites := e.sites ++ ks }]) (linesB r)
  | [], e, i, r, _ => ⟨i, Nat.le_refl _, by simp⟩
  | k :: ks, e, i, r, hk => by
    have hk1 := hk k List.mem_cons_self
    obtain ⟨j, g1, g2⟩ := runB_keys n l ks { e with sites := e.sites ++ [k] } (i + 1) r fun x hx => hk x (List.mem_cons_of_mem _ hx)
    refine ⟨j, by omega, ?_⟩
    simp only [List.map_cons, List.flatten_cons, List.append_assoc]
    rw [key_line, lines_hit (key_no hk1), runB, lineB_key i n l e hk1, g2]
    simp
theorem runB_ents (n : Int) : ∀ (es l : List Ent) (i : Nat), (∀ e ∈ es, e.own = e ∧ EntOk e ∧ ∀ k ∈ e.sites, keyB k = true) → runB i (n, l) (linesB (es.map entText).flatten) = (n, l ++ es)
  | [], l, i, _ => by
    simp only [List.map_nil, List.flatten_nil, lines_nil, runB, lineB_nil, List.append_nil]
  | e :: es, l, i, he => by
    obtain ⟨o1, o2, o3⟩ := he e List.mem_cons_self
    simp only [List.map_cons, List.flatten_cons, entText, List.append_assoc]
    rw [head_line, lines_hit (head_no e), runB, lineB_head i (n, l) e o2.1 o2.2.1 o2.2.2.1]
    obtain ⟨j, g1, g2⟩ := runB_keys n l e.sites (nEnt e.kind e.seen e.missed) (i + 1) ((es.map entText).flatten) o3
    rw [g2, runB_ents n es _ j fun x hx => he x (List.mem_cons_of_mem _ hx)]
    have : ({ nEnt e.kind e.seen e.missed with sites := (nEnt e.kind e.seen e.missed).sites ++ e.sites } : Ent) = e := o1
    rw [this]
    simp
theorem parseB_text {n : Int} {l : List Ent} (h : validB n l = true) (ho : ∀ e ∈ l, e.own = e) : parseB (baseText n l) = (n, l) := by
  have ht := ent_texts h
  have hn := valid_i64 h
  have hx : fldB (firstLine n) [98, 97, 115, 101, 108, 105, 110, 101] 1 = some [itoaE n] := by
    unfold fldB
    rw [flds_first]
    rfl
  have h0 : lineB 0 (0, []) (firstLine n) = (n, []) := by
    unfold lineB
    simp only [hx, Option.isSome_some, and_self, if_true, numA_itoa hn]
  unfold parseB baseText
  rw [first_line, lines_hit (first_no n), runB, h0, runB_ents n l [] 1 fun e he => ⟨ho e he, ht e he⟩]
  rfl
/-! the results -/
def resA (s : List UInt8) : Int × List Ent × Int :=
  match parseA s with
  | some (n, l) => if validB n l = true ∧ baseText n l = s then (n, l, 0) else (0, [], 3)
  | none => (0, [], 3)
def resB (s : List UInt8) : Int × List Ent × Int :=
  if validB (parseB s).1 (parseB s).2 = true ∧ baseText (parseB s).1 (parseB s).2 = s then ((parseB s).1, (parseB s).2, 0) else (0, [], 3)
theorem addSite_own (k : Key) : ∀ l : List Ent, (∀ e ∈ l, e.own = e) → ∀ e ∈ addSite k l, e.own = e
  | [], _, e, he => by cases he
  | [a], h, e, he => by
    have := h a List.mem_cons_self
    rw [List.mem_singleton.1 he, ← this]
    rfl
  | a :: b :: l, h, e, he => by
    rw [addSite] at he
    · rcases List.mem_cons.1 he with rfl | he
      · exact h _ List.mem_cons_self
      · exact addSite_own k (b :: l) (fun x hx => h x (List.mem_cons_of_mem _ hx)) e he
    · simp
theorem own_app {l : List Ent} (h : ∀ e ∈ l, e.own = e) (a b c : Int) : ∀ e ∈ l ++ [nEnt a b c], e.own = e := by
  intro e he
  rcases List.mem_append.1 he with he | he
  · exact h e he
  · rw [List.mem_singleton.1 he]; rfl
theorem lineA_own {l l' : List Ent} {s : List UInt8} (h : ∀ e ∈ l, e.own = e) (hl : lineA l s = some l') : ∀ e ∈ l', e.own = e := by
  unfold lineA at hl
  split at hl
  · split at hl
    · split at hl
      · cases hl; exact own_app h _ _ _
      · cases hl
    · split at hl
      · split at hl
        · split at hl
          · cases hl
          · cases hl; exact addSite_own _ _ h
        · cases hl
      · cases hl
  · cases hl
theorem runA_own : ∀ (f : Nat) (l : List Ent) (s : List UInt8) (r : List Ent), (∀ e ∈ l, e.own = e) → runA f l s = some r → ∀ e ∈ r, e.own = e
  | 0, _, _, _, _, h => by cases h
  | f + 1, l, s, r, ho, h => by
    rw [runA] at h
    split at h
    · cases h; exact ho
    · split at h
      · rename_i l' hl
        exact runA_own f l' _ r (lineA_own ho hl) h
      · cases h
theorem lineB_own {i : Nat} {p : Int × List Ent} {s : List UInt8} (h : ∀ e ∈ p.2, e.own = e) : ∀ e ∈ (lineB i p s).2, e.own = e := by
  unfold lineB
  split
  split
  · split
    · exact h
    · exact h
  · split
    · split
      · exact own_app h _ _ _
      · exact h
    · split
      · split
        · exact addSite_own _ _ h
        · exact h
      · exact h
theorem runB_own : ∀ (ls : List (List UInt8)) (i : Nat) (p : Int × List Ent), (∀ e ∈ p.2, e.own = e) → ∀ e ∈ (runB i p ls).2, e.own = e
  | [], _, _, h => h
  | s :: ls, i, p, h => runB_own ls (i + 1) _ (lineB_own h)
theorem parseA_own {s : List UInt8} {n : Int} {l : List Ent} (h : parseA s = some (n, l)) : ∀ e ∈ l, e.own = e := by
  unfold parseA at h
  split at h
  · rw [Option.map_eq_some_iff] at h
    obtain ⟨r, h1, h2⟩ := h
    cases h2
    exact runA_own _ _ _ _ (fun e he => by cases he) h1
  · cases h
theorem parseB_own (s : List UInt8) : ∀ e ∈ (parseB s).2, e.own = e := runB_own _ _ _ fun e he => by cases he
/-- both parsers answer alike -/
theorem res_eq (s : List UInt8) : resA s = resB s := by
  by_cases hB : validB (parseB s).1 (parseB s).2 = true ∧ baseText (parseB s).1 (parseB s).2 = s
  · have hA := parseA_text hB.1 (parseB_own s)
    rw [hB.2] at hA
    unfold resA resB
    rw [hA, if_pos hB]
    simp only
    rw [if_pos hB]
  · unfold resB
    rw [if_neg hB]
    unfold resA
    split
    · rename_i n l h
      by_cases hA : validB n l = true ∧ baseText n l = s
      · have hb := parseB_text hA.1 (parseA_own h)
        rw [hA.2] at hb
        rw [hb] at hB
        exact absurd hA hB
      · rw [if_neg hA]
    · rfl
end Go.Proofs.YtlehfgdhebapeaaGreatDoor.KM
