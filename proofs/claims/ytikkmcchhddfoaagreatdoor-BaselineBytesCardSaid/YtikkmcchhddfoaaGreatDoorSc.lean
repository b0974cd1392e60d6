/- Walks: bytes of baselines: the program's Encode. -/
import Derived.Test.YtikkmcchhddfoaaGreatDoorSb
set_option linter.all false
namespace Go.Proofs.YtikkmcchhddfoaaGreatDoor.KM
open Go
def keyBy (k : Key) : List Int := varsL [k.2.2, (k.1.length : Int)] ++ (strI k.1 ++ (varsL [(k.2.1.length : Int)] ++ strI k.2.1))
def entBy (e : Ent) : List Int := varsL [e.kind, e.seen, e.missed, (e.sites.length : Int)] ++ (e.sites.map keyBy).flatten
def bodyI (n : Int) (b : List Ent) : List Int := [73, 66, 76, 49] ++ (varsL [n, (b.length : Int)] ++ (b.map entBy).flatten)
def sum4 (s : Int) : List Int := [IntKind.u8.wrap s, IntKind.u8.wrap (s.fdiv (2 ^ min 8 32)), IntKind.u8.wrap (s.fdiv (2 ^ min 16 32)), IntKind.u8.wrap (s.fdiv (2 ^ min 24 32))]
def encI (n : Int) (b : List Ent) : List Int := bodyI n b ++ sum4 (sumI (bodyI n b))
theorem varsL_len (ns : List Int) : (varsL ns).length ≤ 11 * ns.length := by
  unfold varsL
  induction ns with
  | nil => simp
  | cons n ns ih =>
    have := varL_len n
    simp only [List.map_cons, List.flatten_cons, List.length_append, List.length_cons] at ih ⊢
    omega
theorem keyB_len {k : Key} (h : keyB k = true) : k.1.length ≤ 12 ∧ k.2.1.length ≤ 1000 := by
  unfold keyB isNameE textB at h
  simp only [Bool.and_eq_true, decide_eq_true_eq] at h
  exact ⟨h.1.1.1.2.1, h.1.1.2.1.2⟩
theorem okV_keys {x : Ent} (h : okV x) : ∀ k ∈ x.sites, keyB k = true := by
  unfold okV entB at h
  simp only [Bool.and_eq_true] at h
  exact List.all_eq_true.1 h.1.2
theorem keyBy_len {k : Key} (h : keyB k = true) : (keyBy k).length ≤ 1100 := by
  have h1 := keyB_len h
  have h2 := varsL_len [k.2.2, (k.1.length : Int)]
  have h3 := varsL_len [(k.2.1.length : Int)]
  simp only [keyBy, strI, List.length_append, List.length_map, List.length_cons, List.length_nil] at h2 h3 ⊢
  omega
theorem flatI_len {α : Type} (f : α → List Int) (k : Nat) : ∀ l : List α, (∀ x ∈ l, (f x).length ≤ k) → ((l.map f).flatten).length ≤ l.length * k
  | [], _ => by simp
  | x :: l, h => by
    have h1 := h x List.mem_cons_self
    have h2 := flatI_len f k l fun y hy => h y (List.mem_cons_of_mem _ hy)
    simp only [List.map_cons, List.flatten_cons, List.length_append, List.length_cons, Nat.succ_mul]
    omega
theorem entBy_len {x : Ent} (h : okV x) : (entBy x).length ≤ 4500 := by
  have h1 := entB_len h
  have h2 := varsL_len [x.kind, x.seen, x.missed, (x.sites.length : Int)]
  have h3 := flatI_len keyBy 1100 x.sites fun k hk => keyBy_len (okV_keys h k hk)
  simp only [entBy, List.length_append, List.length_cons, List.length_nil] at h2 ⊢
  omega
theorem bodyI_len {n : Int} {b : List Ent} (h : ∀ x ∈ b, okV x) (hb : b.length ≤ 64) : (bodyI n b).length ≤ 400000 := by
  have h2 := varsL_len [n, (b.length : Int)]
  have h3 := flatI_len entBy 4500 b fun k hk => entBy_len (h k hk)
  simp only [bodyI, List.length_append, List.length_cons, List.length_nil] at h2 ⊢
  omega
theorem eb_obl {s base : St} {lo ob : Nat} {bs : List Int} (h : EB s lo ob bs base) : ob < s.length := (List.getElem?_eq_some_iff.1 h.box.choose_spec.1).1
/-- a new object beside a box -/
theorem eb_new {s base : St} {lo ob : Nat} {bs : List Int} (h : EB s lo ob bs base) (r : List V) (t : Nat) (hr : r.all V.rowB = true) : EB (s ++ [.row r t 0 0]) lo ob bs base ∧ ∀ w, (s ++ [Ob.row r t 0 0])[ob]? = some (.row [w] 22 0 0) → s.length ∉ w.refs := by
  refine ⟨eb_push h (cl_row h.cl hr), fun w hw hm => ?_⟩
  obtain ⟨w', q1, q2, q3⟩ := h.box
  rw [get_app_some q1] at hw
  cases hw
  have := gw_refs q2 _ hm
  omega
theorem enc_keys (x : Ent) (hx : okV x) (A : V) (B C : Int) (base : St) (k : List It) (Q : Env → St → Prop) (bs : List Int) (hb : bs ≠ []) (hbl : bs.length + ((x.sites.map keyBy).flatten).length ≤ 900000) (s : St) (hE : EB s 3 2 bs base)
    (h : ∀ s', EB s' 3 2 (bs ++ (x.sites.map keyBy).flatten) base → W TT PT k [(4, .ptr 2 0 0), (5, .fn 86 [] [.ptr 2 0 0]), (26, A), (27, .int .i64 B), (28, .int .i64 C), (45, x.sl), (46, .int .i64 x.sites.length), (47, .int .i64 x.sites.length)] s' Q) :
    W TT PT (.l [4, 5, 26, 27, 28, 45, 46, 47] lp39_0 :: .b 2 :: k) [(4, .ptr 2 0 0), (5, .fn 86 [] [.ptr 2 0 0]), (26, A), (27, .int .i64 B), (28, .int .i64 C), (45, x.sl), (46, .int .i64 x.sites.length), (47, .int .i64 0)] s Q := by
  refine loop_w (α := Nat × St × List Int) (fun a => x.sites.length - a.1) (fun a => [(4, .ptr 2 0 0), (5, .fn 86 [] [.ptr 2 0 0]), (26, A), (27, .int .i64 B), (28, .int .i64 C), (45, x.sl), (46, .int .i64 x.sites.length), (47, .int .i64 a.1)]) (fun a => a.2.1)
    (fun a => a.1 ≤ x.sites.length ∧ EB a.2.1 3 2 a.2.2 base ∧ a.2.2 ≠ [] ∧ a.2.2 ++ ((x.sites.drop a.1).map keyBy).flatten = bs ++ (x.sites.map keyBy).flatten) ?_ (0, s, bs) ⟨by simp, hE, hb, rfl⟩
  rintro ⟨i, s1, b1⟩ ⟨hi, hE1, hb1, hd⟩ ih
  simp only at hi hE1 hb1 hd ih
  have hx4 := entB_len hx
  refine w_rep (by delta lp39_0; exact rfl) ?_
  rcases Nat.lt_or_ge i x.sites.length with hlt | hge
  · obtain ⟨y, hy, hdr, hm⟩ := at_some hlt
    rw [hdr, List.map_cons, List.flatten_cons] at hd
    have hlen := congrArg List.length hd
    simp only [List.length_append] at hlen
    have hkb : (keyBy y).length = (varsL [y.2.2, (y.1.length : Int)]).length + y.1.length + (varsL [(y.2.1.length : Int)]).length + y.2.1.length := by simp [keyBy, strI]; omega
    obtain ⟨n1, n2⟩ := eb_new hE1 (krow y) 52 rfl
    have hol := eb_obl hE1
    obtain ⟨s2, t1, t2, t3, t4⟩ := put_th [y.2.2, (y.1.length : Int)] (by simp) n1 (by omega) (eb_refs n1 (by omega)) hb1 (by omega) (by simp) (by simp; omega)
    have k1 := (t4 s1.length (by simp) (by omega) n2).trans (get_app0 ..)
    simp only [List.length_append, List.length_cons, List.length_nil] at t2 t3
    obtain ⟨w1, w1', s3, p1, p2, p3, p4, p5, p6, p7⟩ := eb_str t2 (by omega) (by omega) y.1 (by simp only [List.length_append]; omega)
    have k2 : (s3.set 2 (.row [w1'] 22 0 0))[s1.length]? = some (.row (krow y) 52 0 0) := by
      rw [List.getElem?_set_ne (by omega), p7 s1.length (by omega)]
      exact k1
    have m2 : ∀ w, (s3.set 2 (Ob.row [w1'] 22 0 0))[2]? = some (.row [w] 22 0 0) → s1.length ∉ w.refs := by
      intro w hw hm
      obtain ⟨w', q1, q2, q3⟩ := p6.box
      rw [q1] at hw
      cases hw
      have := (gw_named q2 (bI_refs _) _ hm).1
      omega
    obtain ⟨s4, u1, u2, u3, u4⟩ := put_th [(y.2.1.length : Int)] (by simp) p6 (by omega) (eb_refs p6 (by omega)) (by simp [hb1]) (by simp only [List.length_append, strI, List.length_map]; omega) (by simp) (eb_obl p6)
    simp only [List.length_set] at u2 u3 u4
    have k3 := (u4 s1.length (by omega) (by omega) m2).trans k2
    obtain ⟨w2, w2', s5, r1, r2, r3, r4, r5, r6, r7⟩ := eb_str u2 (by omega) (by omega) y.2.1 (by simp only [List.length_append, strI, List.length_map]; omega)
    simp only [iRows, List.map_cons, List.map_nil] at t1 u1
    have k1 : s2[s1.length]? = some (.row [.str y.1, .str y.2.1, .int .i64 y.2.2] 52 0 0) := k1
    have k2 : (s3.set 2 (.row [w1'] 22 0 0))[s1.length]? = some (.row [.str y.1, .str y.2.1, .int .i64 y.2.2] 52 0 0) := k2
    have k3 : s4[s1.length]? = some (.row [.str y.1, .str y.2.1, .int .i64 y.2.2] 52 0 0) := k3
    simp only [krow] at t1
    simp only [go_sem, Nat.reduceEqDiff, reduceIte, Nat.reduceAdd, Nat.reduceMul, Nat.reduceLeDiff, Int.reduceLT, Int.reduceLE, Int.reduceToNat, Int.reduceAdd, Int.reduceNeg, Int.reduceEq, lt_t hlt, ents_iad, List.getElem?_map, hy, krow]
    refine wx_th t1 ?_
    simp only [go_sem, Nat.reduceEqDiff, reduceIte, Nat.reduceAdd, Nat.reduceMul, Nat.reduceLeDiff, Int.reduceLT, Int.reduceLE, Int.reduceToNat, Int.reduceAdd, Int.reduceNeg, Int.reduceEq, p1, k1, p2, p3, cells1 p4, p4, k2]
    refine wx_th u1 ?_
    simp only [go_sem, Nat.reduceEqDiff, reduceIte, Nat.reduceAdd, Nat.reduceMul, Nat.reduceLeDiff, Int.reduceLT, Int.reduceLE, Int.reduceToNat, Int.reduceAdd, Int.reduceNeg, Int.reduceEq, r1, k3, r2, r3, cells1 r4, r4, inc64 (show i < 9223372036854775807 by omega)]
    refine W_keep (ih (i + 1, s5.set 2 (.row [w2'] 22 0 0), b1 ++ keyBy y) (by simp; omega) ⟨by simp; omega, ?_, by simp [hb1], by simp only; rw [List.append_assoc]; exact hd⟩) rfl
    have := eb_lo r6 (show 3 ≤ s3.length by omega)
    simp only [keyBy]
    simpa only [List.append_assoc] using this
  · obtain rfl : i = x.sites.length := by omega
    rw [List.drop_eq_nil_of_le hge] at hd
    have hd : b1 = bs ++ (x.sites.map keyBy).flatten := by simpa using hd
    subst hd
    simp only [go_sem, Nat.reduceEqDiff, reduceIte, Nat.reduceAdd, Nat.reduceMul, Nat.reduceLeDiff, Int.reduceLT, Int.reduceLE, Int.reduceToNat, Int.reduceAdd, Int.reduceNeg, Int.reduceEq, lt_f hge]
    exact h s1 hE1
end Go.Proofs.YtikkmcchhddfoaaGreatDoor.KM
