/- Plain: the newlines in a program's text. -/
import Derived.Test.YtlehfgdhebapeaaDoorGh
import Derived.Test.YtlehfgdhebapeaaDoorLc
set_option linter.all false
namespace Go.Proofs.YtlehfgdhebapeaaDoor.KM
open Go
/-- newlines in a text -/
def nlC (l : List UInt8) : Nat := l.count 10
theorem nl_app (a b : List UInt8) : nlC (a ++ b) = nlC a + nlC b := List.count_append
theorem nl_cons (c : UInt8) (l : List UInt8) : nlC (c :: l) = nlC l + if c = 10 then 1 else 0 := by
  unfold nlC
  rw [List.count_cons]
  by_cases h : c = 10 <;> simp [h]
theorem nl_ne {c : UInt8} {l : List UInt8} (h : c ≠ 10) : nlC (c :: l) = nlC l := by rw [nl_cons, if_neg h, Nat.add_zero]
theorem nl_nil : nlC [] = 0 := rfl
theorem nl_none {l : List UInt8} (h : ∀ c ∈ l, c ≠ 10) : nlC l = 0 := List.count_eq_zero.2 fun hm => h 10 hm rfl
mutual
def Sp.lns : Sp → Nat
  | ⟨op, _, _, _, _, _, _, _, _, _, body, _, _, els⟩ => 1 + (if bodyE op then 1 + Sp.lnss body else 0) + (if els.isEmpty then 0 else 1 + Sp.lnss els)
def Sp.lnss : List Sp → Nat
  | [] => 0
  | x :: l => x.lns + Sp.lnss l
end
theorem lns_eq (s : Sp) : s.lns = 1 + (if bodyE s.op then 1 + Sp.lnss s.body else 0) + (if s.els.isEmpty then 0 else 1 + Sp.lnss s.els) := by
  cases s
  rfl
theorem nmc_nl {l : List UInt8} {j : Nat} (h : nmC l j = true) : l.getD j 0 ≠ 10 := fun e => by
  unfold nmC at h
  rw [e] at h
  cases j <;> simp [letN, digN] at h
theorem nm_nl {l : List UInt8} (h : isNameE l = true) : nlC l = 0 := by
  refine nl_none fun c hc => ?_
  obtain ⟨i, hi, rfl⟩ := List.getElem_of_mem hc
  unfold isNameE at h
  simp only [Bool.and_eq_true, List.all_eq_true] at h
  have := nmc_nl (h.2.2.2 i (List.mem_range.2 hi))
  rwa [List.getD_eq_getElem?_getD, List.getElem?_eq_getElem hi] at this
theorem dec_nl : ∀ (k u : Nat), nlC (decE k u) = 0
  | 0, _ => rfl
  | k + 1, u => by
    have hd : ∀ n, n < 10 → nlC [UInt8.ofNat (48 + n)] = 0 := by decide
    unfold decE
    split
    · exact hd u (by omega)
    · rw [nl_app, dec_nl k, hd _ (by omega)]
theorem itoa_nl (n : Int) : nlC (itoaE n) = 0 := by
  unfold itoaE
  split
  · rw [nl_cons, dec_nl]
    decide
  · exact dec_nl _ _
theorem sg_nl (op : Int) : nlC (sgE op) = 0 := by
  unfold sgE
  split <;> decide
theorem put_nl {o : Int × List UInt8} (h : nlC o.2 = 0) (v : Int) : nlC (putE o v) = 0 := by
  unfold putE
  split
  · rw [nl_cons, nl_app, h]
    decide
  · exact h
theorem txt_nl {x : Xp} (h : ShE x) : nlC x.txt = 0 := by
  induction h with
  | num h =>
    rw [xtxt_def]
    simp only [combE, if_pos]
    exact itoa_nl _
  | name h =>
    rw [xtxt_def]
    simp only [combE]
    exact nm_nl h
  | idx hn ha ih =>
    rw [xtxt_def]
    simp only [combE, List.map_cons, List.map_nil]
    simp only [Int.reduceEq, if_false, if_true]
    rw [nl_app, nl_cons, nl_app, nm_nl hn, ih]
    decide
  | @un op z t a ho ha ih =>
    rw [xtxt_def]
    simp only [combE, List.map_cons, List.map_nil]
    rw [if_neg (by omega), if_neg (by omega), if_neg (by omega), nl_app, sg_nl, put_nl ih]
  | @bin op z t a b ho ha hb iha ihb =>
    rw [xtxt_def]
    simp only [combE, List.map_cons, List.map_nil]
    rw [if_neg (by omega), if_neg (by omega), nl_app, nl_cons, nl_app, nl_cons, sg_nl, put_nl iha, put_nl ihb]
    decide
theorem word_nl (op : Int) : nlC (wordE op) = 0 := by
  unfold wordE
  split <;> decide
theorem head_nl {s : Sp} (h : ShS s) : nlC (headE s) = 0 := by
  obtain ⟨h1, h2, h3, h4, h5, h6, h7, h8, h9, h10, h11, h12, h13, h14⟩ := h
  have hn : nlC s.nm = 0 := by
    cases e : namelessE s.op
    · exact nm_nl (h3 e)
    · rw [h2 e]; rfl
  have ha : nlC s.arg = 0 := by
    by_cases e : s.op = 15
    · exact nm_nl (h4 e)
    · rw [h5 e]; rfl
  have hx : valuedE s.op = true → nlC s.ex.txt = 0 := fun e => txt_nl (h9 e)
  have hi : nlC (idxE s.idx) = 0 := by
    unfold idxE
    split
    · rename_i a r e
      rw [nl_cons, nl_app, txt_nl (h8 a (by rw [e]; simp))]
      decide
    · rfl
  unfold headE
  split
  · rename_i e
    rw [nl_app, nl_app, nl_cons, nl_cons, nl_cons, hn, hi, hx (by rw [e]; rfl)]
    decide
  split
  · rename_i e
    rw [nl_app, nl_cons, word_nl, hx (by rcases e with e | e <;> rw [e] <;> rfl)]
    decide
  split
  · exact word_nl _
  split
  · rename_i e
    rw [nl_app, nl_cons, nl_app, nl_cons, word_nl, hn, hx (by rw [e]; rfl)]
    decide
  split
  · rw [nl_app, nl_cons, nl_app, nl_cons, word_nl, hn, ha]
    decide
  · rw [nl_app, nl_cons, word_nl, hn]
    decide
theorem ind_nl (d : Nat) : nlC (indE d) = 0 := by
  refine nl_none fun c hc => ?_
  rw [(List.mem_replicate.1 hc).2]
  decide
theorem txts_nl {d : Nat} : ∀ {l : List Sp}, (∀ x ∈ l, nlC (x.txt d) = x.lns) → nlC (Sp.txts d l) = Sp.lnss l
  | [], _ => rfl
  | x :: l, h => by
    rw [stxts_cons, nl_app, h x (by simp), txts_nl (l := l) fun y hy => h y (by simp [hy])]
    rfl
theorem stxt_nl {s : Sp} (h : ShS s) : ∀ d, nlC (s.txt d) = s.lns := by
  induction h with
  | @mk s h1 h2 h3 h4 h5 h6 h7 h8 h9 h10 h11 h12 h13 h14 ih1 ih2 =>
    intro d
    have hh := head_nl (.mk h1 h2 h3 h4 h5 h6 h7 h8 h9 h10 h11 h12 h13 h14)
    have b1 := txts_nl (l := s.body) fun x hx => ih1 x hx (d + 1)
    have b2 := txts_nl (l := s.els) fun x hx => ih2 x hx (d + 1)
    rw [stxt_eq, lns_eq, nl_app, nl_app, ind_nl, hh]
    cases hb : bodyE s.op
    · have he : s.els = [] := h12 fun e => by rw [e] at hb; cases hb
      rw [he]
      rfl
    · rw [if_pos rfl, if_pos rfl]
      cases hl : s.els.isEmpty
      · simp only [nl_cons, nl_app, ind_nl, b1, b2, Bool.false_eq_true, if_false, nl_nil]
        simp only [show ((32 : UInt8) = 10) = False from eq_false (by decide), show ((123 : UInt8) = 10) = False from eq_false (by decide), show ((125 : UInt8) = 10) = False from eq_false (by decide), show ((101 : UInt8) = 10) = False from eq_false (by decide), show ((108 : UInt8) = 10) = False from eq_false (by decide), show ((115 : UInt8) = 10) = False from eq_false (by decide), if_true, if_false]
        omega
      · simp only [nl_cons, nl_app, ind_nl, b1, if_true, nl_nil]
        simp only [show ((32 : UInt8) = 10) = False from eq_false (by decide), show ((123 : UInt8) = 10) = False from eq_false (by decide), show ((125 : UInt8) = 10) = False from eq_false (by decide), if_true, if_false]
        omega
theorem decl_nl {d : Dp} (h : ShD d) : nlC (declE d ++ [59, 10]) = 1 := by
  have hn := nm_nl h.nm
  have ho : nlC d.on = 0 := by
    by_cases e : d.kind = 5
    · exact nm_nl (h.on.1 e)
    · rw [h.on.2 e]; rfl
  have hi : nlC (initE d.init) = 0 := by
    unfold initE
    split
    · rfl
    · rw [nl_cons, nl_cons, nl_cons, itoa_nl]; decide
  have hz : nlC (if d.size = 0 then [] else 91 :: (itoaE d.size ++ [93])) = 0 := by
    split
    · rfl
    · rw [nl_cons, nl_app, itoa_nl]; decide
  rw [nl_app]
  have : nlC (declE d) = 0 := by
    unfold declE
    split
    · rw [nl_app, nl_app, nl_app, hn, hi, hz]; decide
    split
    · rw [nl_app, nl_app, hn, hi]; decide
    split
    · rw [nl_app, hn]; decide
    split
    · rw [nl_app, hn]; decide
    split
    · rw [nl_app, nl_app, hn, nl_cons 32 d.on, ho]; decide
    · rw [nl_app, hn]; decide
  rw [this]
  decide
theorem join_nl : ∀ {l : List (List UInt8)}, (∀ s ∈ l, isNameE s = true) → nlC (joinE l) = 0
  | [], _ => rfl
  | [a], h => nm_nl (h a (by simp))
  | a :: b :: l, h => by
    rw [joinE, nl_app, nl_cons, nl_cons, nm_nl (h a (by simp)), join_nl (l := b :: l) fun s hs => h s (by simp at hs ⊢; exact .inr hs)]
    decide
def thrN (t : Tp) : Nat := 2 + Sp.lnss t.body
theorem thr_nl {t : Tp} (h1 : isNameE t.nm = true) (h2 : ∀ s ∈ t.locals, isNameE s = true) (h3 : ∀ s ∈ t.body, ShS s) : nlC (thrE t) = thrN t := by
  unfold thrE thrN
  rw [nl_app, nl_app, nl_ne (c := 40) (by decide), nl_app, nl_ne (c := 41) (by decide), nl_ne (c := 32) (by decide), nl_ne (c := 123) (by decide), nl_cons 10, nl_app, nm_nl h1, join_nl h2, txts_nl fun s hs => stxt_nl (h3 s hs) 1, show nlC [116, 104, 114, 101, 97, 100, 32] = 0 from by decide, show nlC [125, 10] = 1 from by decide, if_pos rfl]
  omega
theorem flat_nl {α : Type} {f : α → List UInt8} {g : α → Nat} : ∀ {l : List α}, (∀ x ∈ l, nlC (f x) = g x) → nlC ((l.map f).flatten) = (l.map g).sum
  | [], _ => rfl
  | x :: l, h => by
    rw [List.map_cons, List.flatten_cons, nl_app, h x (by simp), flat_nl (l := l) fun y hy => h y (by simp [hy])]
    simp
/-- a program's lines -/
def progN (p : Gp) : Nat := p.decls.length + (p.thrs.map thrN).sum
theorem prog_nl {p : Gp} (h : ShG p) : nlC (progE p) = progN p := by
  unfold progE progN
  rw [nl_app, flat_nl (g := fun _ => 1) fun d hd => decl_nl (h.decls d hd), flat_nl fun t ht => thr_nl (h.nms t ht) (h.locs t ht) (h.thrs t ht)]
  have : ∀ l : List Dp, (l.map fun _ => 1).sum = l.length := fun l => by
    induction l with
    | nil => rfl
    | cons x l ih => simp; omega
  rw [this]
/-- the last byte of a program's text -/
theorem prog_last {p : Gp} (h : p.thrs ≠ []) : ∃ l, progE p = l ++ [10] := by
  have hl := List.dropLast_concat_getLast h
  obtain ⟨a, ha⟩ : ∃ a, thrE (p.thrs.getLast h) = a ++ [10] := ⟨[116, 104, 114, 101, 97, 100, 32] ++ ((p.thrs.getLast h).nm ++ 40 :: (joinE (p.thrs.getLast h).locals ++ 41 :: 32 :: 123 :: 10 :: (Sp.txts 1 (p.thrs.getLast h).body ++ [125]))), by simp [thrE]⟩
  refine ⟨(p.decls.map fun d => declE d ++ [59, 10]).flatten ++ (((p.thrs.dropLast).map thrE).flatten ++ a), ?_⟩
  unfold progE
  conv => lhs; rw [← hl]
  rw [List.map_append, List.flatten_append, List.map_cons, List.map_nil, List.flatten_cons, List.flatten_nil, List.append_nil, ha]
  simp only [List.append_assoc]
end Go.Proofs.YtlehfgdhebapeaaDoor.KM
