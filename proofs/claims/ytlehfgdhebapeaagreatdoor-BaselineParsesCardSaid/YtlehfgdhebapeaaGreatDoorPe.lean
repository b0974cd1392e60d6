/- Walks: entries that are made of items; the law BaselineOrders. -/
import Derived.Test.YtlehfgdhebapeaaGreatDoorPd
set_option linter.all false
namespace Go.Proofs.YtlehfgdhebapeaaGreatDoor.KM
open Go
def runOne (f : AF) (args : List V) : Option V := (bodyF (runD TT PT 60) f args []).bind fun p => back p.2 p.1
structure Item where
  kind : Nat
  seen : Nat
  missed : Nat
  a : Nat
  b : Nat
  c : Nat
  d : Nat
def Item.ok (x : Item) : Prop := x.kind < 256 ∧ x.seen < 256 ∧ x.missed < 256 ∧ x.a < 256 ∧ x.b < 256 ∧ x.c < 256 ∧ x.d < 256
def Item.row (x : Item) : List V := [.int .u8 x.kind, .int .u8 x.seen, .int .u8 x.missed, .int .u8 x.a, .int .u8 x.b, .int .u8 x.c, .int .u8 x.d]
theorem bound_nat (k : IntKind) (n d : Nat) : boundV (some (.int k (n : Int))) d = some n := by
  simp only [boundV]
  rw [if_pos (by omega), Int.toNat_natCast]
attribute [go_sem ↓] bound_nat
attribute [go_sem] Nat.sub_zero Nat.zero_le Int.natCast_nonneg
theorem iad_nat {m j g off len i : Nat} {w : Bool} {k : IntKind} (h : i < len) : iadV m (.sl j g off len m w) (.int k (i : Int)) = some (.ptr j g (off + i * m)) := by
  simp only [iadV]
  rw [if_pos ⟨by omega, by omega, trivial⟩, Int.toNat_natCast]
@[go_sem] theorem item_def (x : Item) : x.row = [.int .u8 x.kind, .int .u8 x.seen, .int .u8 x.missed, .int .u8 x.a, .int .u8 x.b, .int .u8 x.c, .int .u8 x.d] := hide rfl
end Go.Proofs.YtlehfgdhebapeaaGreatDoor.KM
