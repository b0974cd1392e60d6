/- Items, out of what a row reads. -/
import Derived.Test.YtikkmcchhddfoaaGreatDoorCc
import Derived.Test.YtikkmcchhddfoaaGreatDoorPe
set_option linter.all false
namespace Go.Proofs.YtikkmcchhddfoaaGreatDoor
open Go.ChangeShapes Go.WideShapes Go.ChangeAt Go.RowKit KM
theorem hasT_array {P : Program} {t e : TypeId} {n : Nat} {pcs : List V} (hu : P.underlying t = some (.array n e)) (h : HasT P t pcs) : ∃ parts : List (List V), pcs = parts.flatten ∧ parts.length = n ∧ ∀ i, i < n → HasT P e (parts.getD i []) := by
  cases h with
  | array parts hu' hl hT =>
    rw [hu] at hu'
    injection hu' with e
    injection e with e1 e2
    subst e1 e2
    exact ⟨parts, rfl, hl, hT⟩
  | _ => simp_all
theorem u8_of {P : Program} {t : TypeId} {pcs : List V} (hu : P.underlying t = some (.int .u8)) (h : HasT P t pcs) : ∃ n : Nat, n < 256 ∧ pcs = [.int .u8 (n : Int)] := by
  obtain ⟨n, rfl, hw⟩ := hasT_int hu h
  simp only [Lit.wf, Bool.and_eq_true, decide_eq_true_eq] at hw
  have h1 : (0 : Int) ≤ n := hw.1
  have h2 : n ≤ 255 := hw.2
  refine ⟨n.toNat, by omega, ?_⟩
  rw [Int.toNat_of_nonneg h1]
theorem u16_of {P : Program} {t : TypeId} {pcs : List V} (hu : P.underlying t = some (.int .u16)) (h : HasT P t pcs) : ∃ n : Nat, n < 65536 ∧ pcs = [.int .u16 (n : Int)] := by
  obtain ⟨n, rfl, hw⟩ := hasT_int hu h
  simp only [Lit.wf, Bool.and_eq_true, decide_eq_true_eq] at hw
  have h1 : (0 : Int) ≤ n := hw.1
  have h2 : n ≤ 65535 := hw.2
  refine ⟨n.toNat, by omega, ?_⟩
  rw [Int.toNat_of_nonneg h1]
theorem item_of {pcs : List V} (h : HasT Tryz.prog 204 pcs) : ∃ x : { x : KM.Item // x.ok }, pcs = x.1.row := by
  obtain ⟨ps, rfl, hl, hT⟩ := hasT_struct Tryz.underlying204 h
  obtain ⟨a, b, c, d, rfl⟩ := parts4 hl
  obtain ⟨n1, l1, h1⟩ := u8_of Tryz.underlying5 (hT 0 _ rfl)
  obtain ⟨n2, l2, h2⟩ := u8_of Tryz.underlying5 (hT 1 _ rfl)
  obtain ⟨n3, l3, h3⟩ := u8_of Tryz.underlying5 (hT 2 _ rfl)
  obtain ⟨qs, h4, hl4, hT4⟩ := hasT_array Tryz.underlying130 (hT 3 _ rfl)
  obtain ⟨a4, b4, c4, d4, rfl⟩ := parts4 hl4
  obtain ⟨m1, k1, g1⟩ := u8_of Tryz.underlying5 (hT4 0 (by omega))
  obtain ⟨m2, k2, g2⟩ := u8_of Tryz.underlying5 (hT4 1 (by omega))
  obtain ⟨m3, k3, g3⟩ := u8_of Tryz.underlying5 (hT4 2 (by omega))
  obtain ⟨m4, k4, g4⟩ := u8_of Tryz.underlying5 (hT4 3 (by omega))
  simp at h1 h2 h3 h4 g1 g2 g3 g4
  subst h1 h2 h3 g1 g2 g3 g4
  subst h4
  exact ⟨⟨⟨n1, n2, n3, m1, m2, m3, m4⟩, l1, l2, l3, k1, k2, k3, k4⟩, rfl⟩
theorem items_of {pcs : List V} (h : HasT Tryz.prog 65 pcs) : ∃ z u, ∃ l : List KM.Item, pcs = [SL z u (l.map KM.Item.row)] ∧ l.length ≤ 9223372036854775807 ∧ ∀ x ∈ l, x.ok := by
  obtain ⟨z, u, l, rfl, hl⟩ := hasT_list (α := { x : KM.Item // x.ok }) (f := fun x => x.1.row) Tryz.underlying65 h fun r hr => item_of hr
  refine ⟨z, u, l.map (·.1), by rw [List.map_map]; rfl, by simpa using hl, fun x hx => ?_⟩
  obtain ⟨y, -, rfl⟩ := List.mem_map.1 hx
  exact y.2
end Go.Proofs.YtikkmcchhddfoaaGreatDoor
