/- Walks: the law BaselineSettles. -/
import Derived.Test.YticpkkjnajmpoaaGreatDoorPp
import Derived.Test.YticpkkjnajmpoaaGreatDoorPf
set_option linter.all false
namespace Go.Proofs.YticpkkjnajmpoaaGreatDoor.KM
open Go
theorem okE_of {l : List Ent} (h : ∀ x ∈ l, okV x) : okE l := fun x hx => okV_len (h x hx)
theorem pre_ok (l : List Item) : ∀ x ∈ preE l 20, okV x := fun x hx => by
  obtain ⟨y, _, rfl⟩ := (preE_inv l 20).2.2 x hx
  exact item_okV y
end Go.Proofs.YticpkkjnajmpoaaGreatDoor.KM
