/- What every closing of this seat's laws needs: the tables, plain data out of what a row reads, the world of the witness. -/
import Derived.Test.YtikkmcchhddfoaaGreatDoorCa
import Derived.Test.YtikkmcchhddfoaaGreatDoorPa
import Derived.Test.YtikkmcchhddfoaaGreatDoorPe
set_option linter.all false
namespace Go.Proofs.YtikkmcchhddfoaaGreatDoor
open Go.ChangeShapes Go.WideShapes Go.ChangeAt Go.RowKit KM

theorem ownKnob_none : ownKnob Tryz.prog.godebug = none := by kernel_rfl
theorem hasT_int {P : Program} {t : TypeId} {k : IntKind} {pcs : List V} (hu : P.underlying t = some (.int k)) (h : HasT P t pcs) : ∃ n, pcs = [.int k n] ∧ (Lit.int k n).wf = true := by
  cases h with
  | int hu' hw =>
    rw [hu] at hu'
    injection hu' with e
    injection e with e
    subst e
    exact ⟨_, rfl, hw⟩
  | _ => simp_all
theorem hasT_struct {P : Program} {t : TypeId} {fs : Array Field} {pcs : List V} (hu : P.underlying t = some (.struct fs)) (h : HasT P t pcs) : ∃ parts : List (List V), pcs = parts.flatten ∧ parts.length = fs.size ∧ ∀ i f, fs[i]? = some f → HasT P f.type (parts.getD i []) := by
  cases h with
  | struct parts hu' hl hT =>
    rw [hu] at hu'
    injection hu' with e
    injection e with e
    subst e
    exact ⟨parts, rfl, hl, hT⟩
  | _ => simp_all
theorem hasT_slice {P : Program} {t e : TypeId} {pcs : List V} (hu : P.underlying t = some (.slice e)) (h : HasT P t pcs) : pcs = [.nils] ∨ ∃ xs, pcs = [.lst 0 xs] ∧ xs.length ≤ maxLen ∧ ∀ i, i < xs.length → HasT P e (xs.getD i []) := by
  cases h with
  | nils _ => exact .inl rfl
  | lst hu' hl hT =>
    rw [hu] at hu'
    injection hu' with e
    injection e with e
    subst e
    exact .inr ⟨_, rfl, hl, hT⟩
  | _ => simp_all
/-- a list of rows of one form -/
theorem rows_map {α : Type} {f : α → List V} : ∀ {xs : List (List V)}, (∀ i, i < xs.length → ∃ a, xs.getD i [] = f a) → ∃ l : List α, xs = l.map f
  | [], _ => ⟨[], rfl⟩
  | x :: xs, h => by
    obtain ⟨a, ha⟩ := h 0 (by simp)
    obtain ⟨l, hl⟩ := rows_map (xs := xs) fun i hi => h (i + 1) (by simpa using hi)
    exact ⟨a :: l, by rw [hl]; simp at ha; simp [ha]⟩
theorem hasT_list {P : Program} {t e : TypeId} {α : Type} {f : α → List V} {pcs : List V} (hu : P.underlying t = some (.slice e)) (h : HasT P t pcs) (hf : ∀ r, HasT P e r → ∃ a, r = f a) : ∃ z u, ∃ l : List α, pcs = [SL z u (l.map f)] ∧ l.length ≤ 9223372036854775807 := by
  rcases hasT_slice hu h with rfl | ⟨xs, rfl, hl, hT⟩
  · exact ⟨true, 0, [], rfl, by simp⟩
  · obtain ⟨l, rfl⟩ := rows_map (f := f) fun i hi => hf _ (hT i hi)
    exact ⟨false, 0, l, by simp [SL], by simpa [maxLen] using hl⟩
theorem parts4 {α : Type} {ps : List (List α)} (h : ps.length = 4) : ∃ a b c d, ps = [a, b, c, d] := by
  match ps, h with
  | [a, b, c, d], _ => exact ⟨a, b, c, d, rfl⟩
theorem globOps : Tryz.prog.globalNamed "interleave/format.operators" = some 0 := by kernel_rfl
theorem globKw : Tryz.prog.globalNamed "interleave/token.keywords" = some 4 := by kernel_rfl
theorem globPow : Tryz.prog.globalNamed "internal/strconv.uint64pow10" = some 5 := by kernel_rfl
/-- the tables that are read, out of what the rows list -/
theorem tabs_of {w : World} {laid : List (String × DataW Unit)} (h : laidMet Tryz.prog laid w) (hs : w.ShapedOpen Tryz.prog) (h1 : ("interleave/format.operators", Rows.laid_interleave_format_operators) ∈ laid) (h2 : ("internal/strconv.uint64pow10", Rows.laid_internal_strconv_uint64pow10) ∈ laid)
    (h3 : ("interleave/token.keywords", Rows.laid_interleave_token_keywords) ∈ laid) (h4 : ("strconv.ErrSyntax", Rows.laid_strconv_ErrSyntax) ∈ laid) (h5 : ("strconv.ErrRange", Rows.laid_strconv_ErrRange) ∈ laid) : ∃ m, Tabs (GT m) w := by
  obtain ⟨m, hm⟩ := tab_int (g := 1) (zero := #[.int .i64 0]) (t := 3) hs (of_decide_eq_true (by kernel_rfl)) (by kernel_rfl) rfl (by kernel_rfl) (by kernel_rfl) Tryz.underlying3
  refine ⟨m, fun g r hg => ?_⟩
  simp only [GT, List.mem_cons, List.not_mem_nil, or_false, Prod.mk.injEq] at hg
  rcases hg with ⟨rfl, rfl⟩ | ⟨rfl, rfl⟩ | ⟨rfl, rfl⟩ | ⟨rfl, rfl⟩ | ⟨rfl, rfl⟩ | ⟨rfl, rfl⟩ <;> first
    | exact hm
    | exact tab_ifc h h4 es_glob (by kernel_rfl) Tryz.underlying97
    | exact tab_ifc h h5 er_glob (by kernel_rfl) Tryz.underlying97
    | exact tab_lit (ts := [3, 9, 181, 225]) (t := 225) h h1 globOps (by kernel_rfl) (by kernel_rfl) (by decide) (by kernel_rfl) (by kernel_rfl)
    | exact tab_lit (ts := [9, 282]) (t := 282) h h3 globKw (by kernel_rfl) (by kernel_rfl) (by decide) (by kernel_rfl) (by kernel_rfl)
    | exact tab_lit (ts := [202, 296]) (t := 296) h h2 globPow (by kernel_rfl) (by kernel_rfl) (by decide) (by kernel_rfl) (by kernel_rfl)
end Go.Proofs.YtikkmcchhddfoaaGreatDoor
/- The world of the witness: the settled one, the listed variables holding what their initialisers lay. -/
namespace Go.Proofs.YtikkmcchhddfoaaGreatDoor
open Go.ChangeShapes Go.WideShapes Go.ChangeAt Go.RowKit KM
theorem and_t {a b : Bool} (h1 : a = true) (h2 : b = true) : (a && b) = true := by rw [h1, h2]; rfl
/-- a block that holds a table -/
def setRow (d : DataW Unit) : Obj → Obj
  | .cells _ t frozen => .cells (flatV d).toArray t frozen
  | o => o
/-- a block that holds an error that errors.New makes -/
def setErr (b : Nat) : Obj → Obj
  | .cells _ t frozen => .cells #[.iface 309 (.pointer (some ⟨b, 0, none⟩))] t frozen
  | o => o
def errText : DataW Unit → Array UInt8
  | .iface _ (.ptr (.agg [.lit (.string l)])) => l.toArray
  | _ => #[]
noncomputable def holds0 (os : Os) : Array Obj := (World.holding Tryz.prog os ⟨#[], #[], []⟩).heap
noncomputable def laidWorld (os : Os) : World :=
  { World.holding Tryz.prog os ⟨#[], #[], []⟩ with heap := ((((((((((holds0 os).modify 0 (setRow Rows.laid_interleave_format_operators)).modify 5 (setRow Rows.laid_internal_strconv_uint64pow10)).modify 8 (setRow Rows.laid_math_bits_deBruijn32tab)).modify 9 (setRow Rows.laid_math_bits_deBruijn64tab)).modify 7 (setRow Rows.laid_unicode_utf8_acceptRanges)).modify 4 (setRow Rows.laid_interleave_token_keywords)).modify 6 (setRow Rows.laid_unicode_utf8_first)).modify 3 (setErr (holds0 os).size)).modify 2 (setErr ((holds0 os).size + 1))).push (.cells #[.string ⟨errText Rows.laid_strconv_ErrRange⟩] 311 (0, 0)) |>.push (.cells #[.string ⟨errText Rows.laid_strconv_ErrSyntax⟩] 311 (0, 0)) }
end Go.Proofs.YtikkmcchhddfoaaGreatDoor
/- Items, out of what a row reads. -/
namespace Go.Proofs.YtikkmcchhddfoaaGreatDoor
open Go.ChangeShapes Go.WideShapes Go.ChangeAt Go.RowKit KM
theorem hasT_array {P : Program} {t e : TypeId} {n : Nat} {pcs : List V} (hu : P.underlying t = some (.array n e)) (h : HasT P t pcs) : ∃ parts : List (List V), pcs = parts.flatten ∧ parts.length = n ∧ ∀ i, i < n → HasT P e (parts.getD i []) := by
  cases h with
  | array parts hu' hl hT =>
    rw [hu] at hu'
    injection hu' with e
    injection e with e1 e2
    subst e1 e2
    exact ⟨parts, rfl, hl, hT⟩
  | _ => simp_all
theorem hasT_bool {P : Program} {t : TypeId} {pcs : List V} (hu : P.underlying t = some .bool) (h : HasT P t pcs) : ∃ b, pcs = [.bool b] := by
  cases h with
  | bool hu' => exact ⟨_, rfl⟩
  | _ => simp_all
theorem u8_of {P : Program} {t : TypeId} {pcs : List V} (hu : P.underlying t = some (.int .u8)) (h : HasT P t pcs) : ∃ n : Nat, n < 256 ∧ pcs = [.int .u8 (n : Int)] := by
  obtain ⟨n, rfl, hw⟩ := hasT_int hu h
  simp only [Lit.wf, Bool.and_eq_true, decide_eq_true_eq] at hw
  have h1 : (0 : Int) ≤ n := hw.1
  have h2 : n ≤ 255 := hw.2
  refine ⟨n.toNat, by omega, ?_⟩
  rw [Int.toNat_of_nonneg h1]
theorem u16_of {P : Program} {t : TypeId} {pcs : List V} (hu : P.underlying t = some (.int .u16)) (h : HasT P t pcs) : ∃ n : Nat, n < 65536 ∧ pcs = [.int .u16 (n : Int)] := by
  obtain ⟨n, rfl, hw⟩ := hasT_int hu h
  simp only [Lit.wf, Bool.and_eq_true, decide_eq_true_eq] at hw
  have h1 : (0 : Int) ≤ n := hw.1
  have h2 : n ≤ 65535 := hw.2
  refine ⟨n.toNat, by omega, ?_⟩
  rw [Int.toNat_of_nonneg h1]
theorem item_of {pcs : List V} (h : HasT Tryz.prog 204 pcs) : ∃ x : { x : KM.Item // x.ok }, pcs = x.1.row := by
  obtain ⟨ps, rfl, hl, hT⟩ := hasT_struct Tryz.underlying204 h
  obtain ⟨a, b, c, d, rfl⟩ := parts4 hl
  obtain ⟨n1, l1, h1⟩ := u8_of Tryz.underlying5 (hT 0 _ rfl)
  obtain ⟨n2, l2, h2⟩ := u8_of Tryz.underlying5 (hT 1 _ rfl)
  obtain ⟨n3, l3, h3⟩ := u8_of Tryz.underlying5 (hT 2 _ rfl)
  obtain ⟨qs, h4, hl4, hT4⟩ := hasT_array Tryz.underlying130 (hT 3 _ rfl)
  obtain ⟨a4, b4, c4, d4, rfl⟩ := parts4 hl4
  obtain ⟨m1, k1, g1⟩ := u8_of Tryz.underlying5 (hT4 0 (by omega))
  obtain ⟨m2, k2, g2⟩ := u8_of Tryz.underlying5 (hT4 1 (by omega))
  obtain ⟨m3, k3, g3⟩ := u8_of Tryz.underlying5 (hT4 2 (by omega))
  obtain ⟨m4, k4, g4⟩ := u8_of Tryz.underlying5 (hT4 3 (by omega))
  simp at h1 h2 h3 h4 g1 g2 g3 g4
  subst h1 h2 h3 g1 g2 g3 g4
  subst h4
  exact ⟨⟨⟨n1, n2, n3, m1, m2, m3, m4⟩, l1, l2, l3, k1, k2, k3, k4⟩, rfl⟩
theorem items_of {pcs : List V} (h : HasT Tryz.prog 65 pcs) : ∃ z u, ∃ l : List KM.Item, pcs = [SL z u (l.map KM.Item.row)] ∧ l.length ≤ 9223372036854775807 ∧ ∀ x ∈ l, x.ok := by
  obtain ⟨z, u, l, rfl, hl⟩ := hasT_list (α := { x : KM.Item // x.ok }) (f := fun x => x.1.row) Tryz.underlying65 h fun r hr => item_of hr
  refine ⟨z, u, l.map (·.1), by rw [List.map_map]; rfl, by simpa using hl, fun x hx => ?_⟩
  obtain ⟨y, -, rfl⟩ := List.mem_map.1 hx
  exact y.2
end Go.Proofs.YtikkmcchhddfoaaGreatDoor
/- Which values are baselines: plain. -/
namespace Go.Proofs.YtikkmcchhddfoaaGreatDoor.KM
open Go
theorem ents_iad (x : Ent) (m : Nat) (i : V) : iadV m x.sl i = (atI (x.sites.map krow) i).bind fun r => if r.length = m then some (.imm r 0) else none := sl_iad ..
def textB (l : List UInt8) : Bool := decide (1 ≤ l.length) && decide (l.length ≤ 1000) && l.all fun c => decide (32 ≤ c.toNat) && decide (c.toNat ≤ 126)
def keyB (k : Key) : Bool := isNameE k.1 && textB k.2.1 && decide (0 ≤ k.2.2) && decide (k.2.2 < 60)
def kindB (k : Int) (n : Nat) : Bool := ((k == 1 || k == 3) && n == 2) || (k == 2 && decide (2 ≤ n) && decide (n ≤ 4)) || (k == 4 && n == 4)
def numB (e : Ent) : Bool := decide (1 ≤ e.seen) && decide (e.seen ≤ 1073741824) && decide (0 ≤ e.missed) && decide (e.missed ≤ 7)
def entB (e : Ent) : Bool := kindB e.kind e.sites.length && e.sites.all keyB && numB e
/-- the entry at i may follow -/
def okAt (l : List Ent) (i : Nat) : Bool := match l[i]? with
  | some x => entB x && (match i with
    | 0 => true
    | j + 1 => match l[j]? with
      | some p => decide (ecmp p x < 0)
      | none => false)
  | none => false
def validL (l : List Ent) : Bool := (List.range l.length).all (okAt l)
def validB (n : Int) (l : List Ent) : Bool := decide (0 ≤ n) && decide (n ≤ 1073741824) && decide (l.length ≤ 64) && validL l
theorem validL_f {l : List Ent} {i : Nat} (hi : i < l.length) (h : okAt l i = false) : validL l = false := by
  unfold validL
  rw [← Bool.not_eq_true]
  intro hall
  have := List.all_eq_true.1 hall i (List.mem_range.2 hi)
  rw [h] at this
  cases this
theorem validL_t {l : List Ent} (h : ∀ i, i < l.length → okAt l i = true) : validL l = true := by
  unfold validL
  rw [List.all_eq_true]
  exact fun i hi => h i (List.mem_range.1 hi)
theorem validL_iff {l : List Ent} : validL l = true ↔ ∀ i, i < l.length → okAt l i = true := ⟨fun h i hi => by
  unfold validL at h
  exact List.all_eq_true.1 h i (List.mem_range.2 hi), validL_t⟩
theorem okAt_ent {l : List Ent} {i : Nat} {x : Ent} (hx : l[i]? = some x) (h : okAt l i = true) : entB x = true := by
  unfold okAt at h
  rw [hx] at h
  simp only [Bool.and_eq_true] at h
  exact h.1
theorem okAt_lt {l : List Ent} {i : Nat} {p x : Ent} (hp : l[i]? = some p) (hx : l[i + 1]? = some x) (h : okAt l (i + 1) = true) : ecmp p x < 0 := by
  unfold okAt at h
  rw [hx] at h
  simp only [hp, Bool.and_eq_true, decide_eq_true_eq] at h
  exact h.2
theorem asc_of {l : List Ent} (h : ∀ i p x, l[i]? = some p → l[i + 1]? = some x → ecmp p x < 0) : Asc l := by
  unfold Asc
  rw [List.pairwise_iff_getElem]
  intro i j hi hj hij
  induction j with
  | zero => omega
  | succ j ih =>
    have h1 : ecmp l[j] l[j + 1] < 0 := h j l[j] l[j + 1] (List.getElem?_eq_getElem (by omega)) (List.getElem?_eq_getElem hj)
    by_cases hij2 : i = j
    · subst hij2; exact h1
    · exact lin_p.trans l[i].ks l[j].ks l[j + 1].ks (ih (by omega) (by omega)) h1
theorem validL_asc {l : List Ent} (h : validL l = true) : Asc l :=
  asc_of fun i p x hp hx => okAt_lt hp hx (validL_iff.1 h (i + 1) (List.getElem?_eq_some_iff.1 hx).1)
theorem validL_ent {l : List Ent} (h : validL l = true) : ∀ x ∈ l, entB x = true := fun x hx => by
  obtain ⟨i, hi, rfl⟩ := List.getElem_of_mem hx
  exact okAt_ent (List.getElem?_eq_getElem hi) (validL_iff.1 h i hi)
theorem validL_of {l : List Ent} (h1 : Asc l) (h2 : ∀ x ∈ l, entB x = true) : validL l = true := by
  refine validL_t fun i hi => ?_
  unfold okAt
  rw [List.getElem?_eq_getElem hi]
  simp only [h2 _ (List.getElem_mem hi), Bool.true_and]
  cases i with
  | zero => rfl
  | succ j =>
    simp only
    rw [List.getElem?_eq_getElem (by omega)]
    simp only [decide_eq_true_eq]
    exact List.pairwise_iff_getElem.1 h1 j (j + 1) (by omega) hi (by omega)
theorem kindB_le {k : Int} {n : Nat} (h : kindB k n = true) : n ≤ 4 ∧ 2 ≤ n := by
  unfold kindB at h
  simp only [Bool.or_eq_true, Bool.and_eq_true, beq_iff_eq, decide_eq_true_eq] at h
  omega
theorem entB_len {x : Ent} (h : entB x = true) : x.sites.length ≤ 4 ∧ 2 ≤ x.sites.length := by
  unfold entB at h
  simp only [Bool.and_eq_true] at h
  exact kindB_le h.1.1
end Go.Proofs.YtikkmcchhddfoaaGreatDoor.KM
