/- Walks: entries inserted into a list whose rows name lists of their own. -/
import Derived.Test.YtikkmcchhddfoaaGreatDoorYb
import Derived.Test.YtikkmcchhddfoaaGreatDoorPq
import Derived.Test.YtikkmcchhddfoaaGreatDoorPf
import Derived.Test.YtikkmcchhddfoaaGreatDoorNb
set_option linter.all false
namespace Go.Proofs.YtikkmcchhddfoaaGreatDoor.KM
open Go
end Go.Proofs.YtikkmcchhddfoaaGreatDoor.KM
/- Walks: Insert, scene.Entries and scene.Baseline, the sites of their entries being lists of their own. -/
namespace Go.Proofs.YtikkmcchhddfoaaGreatDoor.KM
open Go
theorem owns_eq {L : List (V × Ent)} {l : List Ent} (h : L.map (·.2) = l) (ho : ∀ x ∈ l, x.own = x) : ownL L = l.map Ent.row := by
  subst h
  unfold ownL
  rw [List.map_map]
  refine List.map_congr_left fun p hp => ?_
  show p.2.own.row = p.2.row
  rw [ho p.2 (List.mem_map_of_mem hp)]
end Go.Proofs.YtikkmcchhddfoaaGreatDoor.KM
/- Walks: scene.Entries and scene.Baseline, the sites of their entries being lists of their own. -/
namespace Go.Proofs.YtikkmcchhddfoaaGreatDoor.KM
open Go
end Go.Proofs.YtikkmcchhddfoaaGreatDoor.KM
/- Walks: the law BaselineSpoilt. -/
namespace Go.Proofs.YtikkmcchhddfoaaGreatDoor.KM
open Go
theorem get_del : ∀ (e : Env) (ks : List Nat) (n : Nat), (Env.del e ks).get n = if ks.elem n = true then .und else e.get n
  | [], ks, n => by simp [Env.del, Env.get]
  | (m, v) :: r, ks, n => by
    have ih := get_del r ks n
    simp only [Env.del]
    by_cases hm : ks.elem m = true
    · rw [if_pos hm, ih]
      by_cases hn : ks.elem n = true
      · rw [if_pos hn, if_pos hn]
      · rw [if_neg hn, if_neg hn]
        simp only [Env.get]
        rw [if_neg (by rintro rfl; exact hn hm)]
    · rw [if_neg hm]
      simp only [Env.get, ih]
      by_cases hmn : m = n
      · subst hmn
        rw [if_pos rfl, if_neg hm, if_pos rfl]
      · rw [if_neg hmn, if_neg hmn]
theorem gw_set_ty {s : St} {i : Nat} {X : Ob} {cs : List V} {e' g z m e lo : Nat} {u : V} {xs : List (List V)} (h : GW s m e lo u xs) (hs : s[i]? = some (.row cs e' g z)) (he : e' ≠ e) : GW (s.set i X) m e lo u xs := by
  rcases h with h | ⟨hn, j, g', h, ho, hlo⟩
  · exact .inl h
  · refine .inr ⟨hn, j, g', h, ?_, hlo⟩
    rw [List.getElem?_set_ne, ho]
    rintro rfl
    rw [hs] at ho
    cases ho
    exact he rfl
theorem nflat_1 : ∀ {L : List (V × Ent)} {i : Nat} {p : V × Ent}, L[i]? = some p → (L.map nrow).flatten[i * 4 + 1]? = some p.1
  | p :: L, 0, _, h => by cases h; rfl
  | p :: L, i + 1, q, h => by
    have := nflat_1 (L := L) (i := i) (p := q) (by simpa using h)
    simp only [List.map_cons, List.flatten_cons, nrow, List.cons_append, List.nil_append]
    rw [show (i + 1) * 4 + 1 = i * 4 + 1 + 4 by omega]
    simpa using this
theorem lo2_at {cs : List V} {e g z off : Nat} {c : V} (h : cs[off]? = some c) : lo2 (some (.row cs e g z)) g 1 true off = some c := by
  obtain ⟨hl, rfl⟩ := List.getElem?_eq_some_iff.1 h
  rw [lo2_r, if_pos ⟨rfl, by omega⟩, List.drop_eq_getElem_cons hl]
  rfl
end Go.Proofs.YtikkmcchhddfoaaGreatDoor.KM
/- Plain: texts cut at one character. -/
namespace Go.Proofs.YtikkmcchhddfoaaGreatDoor.KM
open Go
theorem index_one (c : UInt8) : ∀ s : List UInt8, (c ∉ s → Lib.index s [c] = -1) ∧ ∀ a r, s = a ++ c :: r → c ∉ a → Lib.index s [c] = (a.length : Int)
  | [] => ⟨fun _ => rfl, fun a r h => by simp at h⟩
  | b :: l => by
    obtain ⟨h1, h2⟩ := index_one c l
    have hp : List.isPrefixOf [c] (b :: l) = (c == b) := by simp [List.isPrefixOf]
    refine ⟨fun hn => ?_, fun a r h ha => ?_⟩
    · have hb : (c == b) = false := by simp at hn ⊢; exact hn.1
      unfold Lib.index
      rw [hp, hb, h1 (by simp at hn; exact hn.2)]
      rfl
    · match a, h, ha with
      | [], h, _ =>
        simp at h
        unfold Lib.index
        rw [hp]
        simp [h.1]
      | x :: a, h, ha =>
        simp only [List.cons_append, List.cons.injEq] at h
        obtain ⟨rfl, rfl⟩ := h
        have hb : (c == b) = false := by simp at ha ⊢; exact ha.1
        have h3 := h2 a r rfl (by simp at ha; exact ha.2)
        unfold Lib.index
        rw [hp, hb, h3]
        have : ((a.length : Int) == -1) = false := by simp
        simp only [Bool.false_eq_true, if_false, this, List.length_cons]
        omega
theorem cut_hit {c : UInt8} {a r : List UInt8} (h : c ∉ a) : Lib.cut (a ++ c :: r) [c] = (a, r, true) := by
  have hi := (index_one c (a ++ c :: r)).2 a r rfl h
  unfold Lib.cut
  rw [hi, if_pos (by omega)]
  simp
def spl (c : UInt8) (k : Nat) (s : List UInt8) : List (List UInt8) := (Lib.splitB ⟨#[c]⟩ 0 k ⟨s.toArray⟩).map fun b => b.data.toList
theorem ib_eq (s : List UInt8) (c : UInt8) : Lib.indexB ⟨s.toArray⟩ ⟨#[c]⟩ = Lib.index s [c] := rfl
theorem spl_zero (c : UInt8) (s : List UInt8) : spl c 0 s = [s] := rfl
theorem ext_list (s : List UInt8) (a b : Nat) : ((⟨s.toArray⟩ : ByteArray).extract a b) = ⟨((s.drop a).take (b - a)).toArray⟩ := by
  apply ByteArray.ext
  simp [ByteArray.data_extract]
theorem spl_hit {c : UInt8} {k : Nat} {a r : List UInt8} (h : c ∉ a) : spl c (k + 1) (a ++ c :: r) = a :: spl c k r := by
  have hi := (index_one c (a ++ c :: r)).2 a r rfl h
  unfold spl
  rw [Lib.splitB_hit _ _ _ _ a.length (by rw [ib_eq]; exact hi), ext_list, ext_list]
  have e1 : (⟨#[c]⟩ : ByteArray).size = 1 := rfl
  have e2 : (⟨(a ++ c :: r).toArray⟩ : ByteArray).size = (a ++ c :: r).length := mk_size ..
  have e3 : (a ++ c :: r).drop (a.length + 1) = r := by rw [List.drop_append]; simp
  rw [e1, e2, e3]
  simp only [List.map_cons, Nat.add_zero, Nat.sub_zero, List.drop_zero, List.take_left, List.length_append, List.length_cons]
  rw [List.take_of_length_le (by omega)]
end Go.Proofs.YtikkmcchhddfoaaGreatDoor.KM
