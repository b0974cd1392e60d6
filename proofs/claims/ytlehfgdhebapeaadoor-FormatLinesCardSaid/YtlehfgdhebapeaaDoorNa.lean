/- Functions of strconv and strings, known by what they return (second form). -/
import Derived.Test.YtlehfgdhebapeaaDoorKz
import Derived.Lib.ItoaLen
import Derived.Lib.Repeat
import Derived.Lib.Split
import Derived.Lib.Join
set_option linter.all false
namespace Go.Proofs.YtlehfgdhebapeaaDoor.KM
open Go Go.RowKit Go.Sort

def gPow : List V := Lib.pow10Tab.map fun z => .int .u64 z
variable {G : List (Nat × List V)}
theorem pow_glob : Tryd.prog.globalNamed "internal/strconv.uint64pow10" = some 2 := by kernel_rfl

theorem tab_of {κ : Kap} {w : World} (h : ∀ g r, (g, r) ∈ G → RepC ⟨κ, []⟩ w (.imm r 0) (.pointer (some ⟨g, 0, none⟩))) (hs : ∀ g r, (g, r) ∈ G → sizeOf? w g = some r.length) (hin : (2, gPow) ∈ G) :
    Lib.TabIs Tryd.prog w "internal/strconv.uint64pow10" .u64 Lib.pow10Tab := by
  have h1 := h _ _ hin
  have h2 := hs _ _ hin
  obtain ⟨b, o, k, row, hu, h3, h4, h5, h6⟩ := repC_imm h1
  simp at hu
  obtain ⟨rfl, rfl⟩ := hu
  unfold sizeOf? at h2
  split at h2
  · rename_i cs e fz hh
    simp only [Option.some.injEq] at h2
    unfold Lib.TabIs World.var?
    rw [pow_glob]
    simp only [Option.bind_some, hh]
    congr 1
    apply Array.ext
    · rw [h2]; simp [gPow]
    · intro i hi1 hi2
      have hlt : i < gPow.length := by omega
      have a1 := h5 i hlt
      have a2 := h6 i hlt
      have hlt' : i < Lib.pow10Tab.length := by simpa [gPow] using hlt
      rw [show gPow.getD i .und = .int .u64 Lib.pow10Tab[i] by simp [gPow, List.getD_eq_getElem?_getD, hlt']] at a2
      have a3 := repC_int (γ := ⟨κ, []⟩) (.row a2)
      rw [a3] at a1
      simp [World.cell?, hh, hi1] at a1
      simp [a1]
  · cases h2

theorem prim_fin {κ : Kap} {w w' : World} {l : List UInt8} {e : Ending} (hd : ∀ b k, κ b = some k → b < w.heap.size) (hl : l.length ≤ maxLen) (h : e = .returned (.string ⟨l.toArray⟩) ∧ Below w.heap.size w w') :
    ∃ u κ', e = .returned u ∧ RepV ⟨κ', []⟩ w' (.str l) u ∧ Below w.heap.size w w' ∧ (∀ b, b < w.heap.size → κ' b = κ b) ∧ ∀ b k, κ' b = some k → b < w'.heap.size :=
  ⟨_, κ, h.1, repV_of (.row (.str hl)), h.2, fun _ _ => rfl, fun b k hk => Nat.lt_of_lt_of_le (hd b k hk) h.2.size⟩

theorem below_grow (w : World) (k : Nat) (os : Array Obj) : Below w.heap.size w (grow (w.drewN k) os) :=
  ⟨rfl, rfl, rfl, by simp [grow, World.drewN], fun k hk => by simp [grow, World.drewN, Array.getElem?_append, hk]⟩


/-! numerals, so that they can be run -/
def decE : Nat → Nat → List UInt8
  | 0, _ => []
  | k + 1, u => if u < 10 then [UInt8.ofNat (48 + u)] else decE k (u / 10) ++ [UInt8.ofNat (48 + u % 10)]
theorem decE_eq : ∀ (k u : Nat), u < 10 ^ (k + 1) → decE (k + 1) u = Lib.decDigits u
  | 0, u, h => by
    rw [Lib.decDigits]
    unfold decE
    rw [if_pos (by simpa using h), dif_pos (by simpa using h)]
  | k + 1, u, h => by
    rw [Lib.decDigits]
    unfold decE
    split
    · rfl
    · rw [decE_eq k (u / 10) (by rw [Nat.pow_succ] at h; omega)]
def itoaE (n : Int) : List UInt8 := if n < 0 then 45 :: decE 20 n.natAbs else decE 20 n.toNat
theorem itoaE_eq (n : Int) (h1 : -9223372036854775808 ≤ n) (h2 : n ≤ 9223372036854775807) : itoaE n = Lib.itoa n := by
  unfold itoaE Lib.itoa
  split
  · rw [decE_eq 19 _ (by omega)]
  · rw [decE_eq 19 _ (by omega)]

def fmtS : List V → Option V
  | [.int .i64 n, .int .i64 10] => if -9223372036854775808 ≤ n ∧ n ≤ 9223372036854775807 then some (.str (itoaE n)) else none
  | _ => none
def itoaS : List V → Option V
  | [.int .i64 n] => if -9223372036854775808 ≤ n ∧ n ≤ 9223372036854775807 then some (.str (itoaE n)) else none
  | _ => none
def repS : List V → Option V
  | [.str s, .int .i64 c] => if 0 ≤ c ∧ c ≤ 9223372036854775807 ∧ s.length * c.toNat ≤ 140737488355328 then some (.str (Lib.repeatL s c.toNat)) else none
  | _ => none
theorem two {α : Type} {us : List α} (h : 2 = us.length) : ∃ a b, us = [a, b] := by
  match us, h with
  | [a, b], _ => exact ⟨a, b, rfl⟩
theorem one_ {α : Type} {us : List α} (h : 1 = us.length) : ∃ a, us = [a] := by
  match us, h with
  | [a], _ => exact ⟨a, rfl⟩

theorem fmt_ok (hin : (2, gPow) ∈ G) : PrimOk Tryd.prog G 51 fmtS := by
  refine ⟨⟨Tryd.f51, _, by kernel_rfl, rfl, by decide⟩, fun κ w vs us v hg hs hd hl ha h => ?_⟩
  unfold fmtS at h
  split at h
  · rename_i n
    split at h
    · rename_i hn
      cases h
      obtain ⟨a, b, rfl⟩ := two hl
      have h1 := repC_int (rep1_cell rfl (ha 0 (by simp)))
      have h2 := repC_int (rep1_cell rfl (ha 1 (by simp)))
      have h1 : a = .int .i64 n := h1
      have h2 : b = .int .i64 10 := h2
      subst h1 h2
      rw [itoaE_eq n hn.1 hn.2]
      refine (Tryd.strconv_FormatInt_10 n hn.1 hn.2 w (tab_of hg hs hin)).mono fun e w' hh => prim_fin hd (by have := Lib.itoa_length_le n hn.1 hn.2; unfold maxLen; omega) ?_
      obtain ⟨h, k, os, rfl⟩ := hh
      exact ⟨h, below_grow w k os⟩
    · cases h
  · cases h
theorem itoa_ok (hin : (2, gPow) ∈ G) : PrimOk Tryd.prog G 46 itoaS := by
  refine ⟨⟨Tryd.f46, _, by kernel_rfl, rfl, by decide⟩, fun κ w vs us v hg hs hd hl ha h => ?_⟩
  unfold itoaS at h
  split at h
  · rename_i n
    split at h
    · rename_i hn
      cases h
      obtain ⟨a, rfl⟩ := one_ hl
      have h1 := repC_int (rep1_cell rfl (ha 0 (by simp)))
      have h1 : a = .int .i64 n := h1
      subst h1
      rw [itoaE_eq n hn.1 hn.2]
      refine (Tryd.strconv_Itoa n hn.1 hn.2 w (tab_of hg hs hin)).mono fun e w' hh => prim_fin hd (by have := Lib.itoa_length_le n hn.1 hn.2; unfold maxLen; omega) ?_
      obtain ⟨h, k, os, rfl⟩ := hh
      exact ⟨h, below_grow w k os⟩
    · cases h
  · cases h

theorem rep_ok : PrimOk Tryd.prog G 49 repS := by
  refine ⟨⟨Tryd.f49, _, by kernel_rfl, rfl, by decide⟩, fun κ w vs us v hg hs hd hl ha h => ?_⟩
  unfold repS at h
  split at h
  · rename_i s c
    split at h
    · rename_i hc
      cases h
      obtain ⟨a, b, rfl⟩ := two hl
      have h1 := (repC_str (rep1_cell rfl (ha 0 (by simp)))).1
      have h2 := repC_int (rep1_cell rfl (ha 1 (by simp)))
      have h1 : a = .string ⟨s.toArray⟩ := h1
      have h2 : b = .int .i64 c := h2
      obtain ⟨n, rfl⟩ : ∃ n : Nat, c = n := ⟨c.toNat, by omega⟩
      subst h1 h2
      have hcn : s.length * n ≤ 140737488355328 := by simpa using hc.2.2
      have := Tryd.strings_Repeat ⟨s.toArray⟩ n w (by omega) (by rw [mk_size]; exact hcn)
      refine this.mono fun e w' hh => prim_fin hd ?_ (by simpa using hh)
      rw [Int.toNat_natCast, Lib.repeatL_length, Nat.mul_comm]
      unfold maxLen
      omega
    · cases h
  · cases h

end Go.Proofs.YtlehfgdhebapeaaDoor.KM
/- strings.Join, known by what it returns. -/
namespace Go.Proofs.YtlehfgdhebapeaaDoor.KM
open Go Go.RowKit Go.Sort
variable {G : List (Nat × List V)}
def strRows : List (List V) → Option (List (List UInt8))
  | [] => some []
  | [.str l] :: r => (strRows r).map (l :: ·)
  | _ => none
def joinS : List V → Option V
  | [.nils, .str _] => some (.str [])
  | [.lst _ xs, .str sep] => (strRows xs).bind fun ls => if xs.length ≤ 140737488355328 ∧ (Lib.join ls sep).length ≤ 140737488355328 then some (.str (Lib.join ls sep)) else none
  | _ => none
theorem strRows_at : ∀ {xs : List (List V)} {ls : List (List UInt8)}, strRows xs = some ls → ls.length = xs.length ∧ ∀ (j : Nat) l, ls[j]? = some l → xs.getD j [] = [.str l]
  | [], ls, h => by
    simp [strRows] at h
    subst h
    exact ⟨rfl, fun j x hj => by simp at hj⟩
  | r :: xs, ls, h => by
    unfold strRows at h
    split at h
    · rename_i e; cases e
    · rename_i l r' e
      injection e with e1 e2
      subst e1 e2
      simp only [Option.map_eq_some_iff] at h
      obtain ⟨l', h, rfl⟩ := h
      obtain ⟨g1, g2⟩ := strRows_at h
      refine ⟨by simp [g1], fun j x hj => ?_⟩
      cases j with
      | zero => simp at hj; rw [← hj]; rfl
      | succ j => exact g2 j x (by simpa using hj)
    · cases h
theorem strRows_map : ∀ l : List (List UInt8), strRows (l.map fun s => [V.str s]) = some l
  | [] => rfl
  | a :: l => by rw [List.map_cons, strRows, strRows_map l]; rfl
theorem join_ok : PrimOk Tryd.prog G 25 joinS := by
  refine ⟨⟨Tryd.f25, _, by kernel_rfl, rfl, by decide⟩, fun κ w vs us v hg hs hd hl ha h => ?_⟩
  unfold joinS at h
  split at h
  · rename_i sep
    cases h
    obtain ⟨a, b, rfl⟩ := two hl
    have h1 := repC_nils (rep1_cell rfl (ha 0 (by simp)))
    have h2 := (repC_str (rep1_cell rfl (ha 1 (by simp)))).1
    have h1 : a = .slice none 0 0 := h1
    have h2 : b = .string ⟨sep.toArray⟩ := h2
    subst h1 h2
    refine (Tryd.strings_Join_none none 0 ⟨sep.toArray⟩ w).mono ?_
    rintro e w' ⟨rfl, rfl⟩
    exact prim_fin hd (by simp) ⟨rfl, Below.refl _ _⟩
  · rename_i t xs sep
    simp only [Option.bind_eq_some_iff] at h
    obtain ⟨ls, hls, h⟩ := h
    split at h
    · rename_i hc
      cases h
      obtain ⟨a, b, rfl⟩ := two hl
      obtain ⟨ad, cap, h1, hR, _⟩ := repC_lst (rep1_cell rfl (ha 0 (by simp)))
      have h2 := (repC_str (rep1_cell rfl (ha 1 (by simp)))).1
      have h1 : a = .slice (some ad) xs.length cap := h1
      have h2 : b = .string ⟨sep.toArray⟩ := h2
      subst h1 h2
      obtain ⟨r1, r2⟩ := strRows_at hls
      rcases Nat.eq_zero_or_pos xs.length with h0 | hpos
      · have hx0 : xs = [] := List.eq_nil_of_length_eq_zero h0
        subst hx0
        have hl0 : ls = [] := List.eq_nil_of_length_eq_zero (by simpa using r1)
        subst hl0
        refine (Tryd.strings_Join_none (some ad) cap ⟨sep.toArray⟩ w).mono ?_
        rintro e w' ⟨rfl, rfl⟩
        exact prim_fin hd (by simp [Lib.join, List.intercalate]) ⟨by simp [Lib.join, List.intercalate], Below.refl _ _⟩
      · cases hR with
        | @lst _ _ _ _ m row k1 k2 k3 k4 k5 k6 k7 =>
        obtain ⟨hsp, k, hk, hle⟩ := k4 hpos
        obtain ⟨blk, off, sp⟩ := ad
        simp at hsp
        subst hsp
        have hm : m = 1 := by
          have h5 := k5 0 hpos
          have := r2 0 (ls[0]'(by omega)) (by simp)
          rw [this] at h5
          simpa using h5.symm
        subst hm
        have hlen : xs.length = (ls.map fun l => (⟨l.toArray⟩ : ByteArray)).length := by simp [r1]
        have hmap : (ls.map fun l => (⟨l.toArray⟩ : ByteArray)).map (·.data.toList) = ls := by simp [Function.comp_def]
        have hJ := Tryd.strings_Join blk off cap (ls.map fun l => ⟨l.toArray⟩) ⟨sep.toArray⟩ w (fun j x hj => by
          simp only [List.getElem?_map, Option.map_eq_some_iff] at hj
          obtain ⟨l, hl, rfl⟩ := hj
          have hjl : j < xs.length := by rw [← r1]; exact (List.getElem?_eq_some_iff.1 hl).1
          have a1 := k6 j 0 hjl (by omega)
          have a2 := k7 j 0 hjl (by omega)
          rw [r2 j l hl] at a2
          have a3 := (repC_str (γ := ⟨κ, []⟩) (.row a2)).1
          rw [a3] at a1
          simpa using a1) (hd _ _ hk) (by rw [← hlen]; exact hc.1) (by rw [← hlen]; exact k2) (by rw [hmap]; exact hc.2)
        rw [hmap, ← hlen] at hJ
        exact hJ.mono fun e w' hh => prim_fin hd (by unfold maxLen; omega) hh
    · cases h
  · cases h
end Go.Proofs.YtlehfgdhebapeaaDoor.KM
