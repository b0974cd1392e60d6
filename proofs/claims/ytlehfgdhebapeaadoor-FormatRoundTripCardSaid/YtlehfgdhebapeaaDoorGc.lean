/- Walks: the reference's texts of statements. -/
import Derived.Test.YtlehfgdhebapeaaDoorGb
set_option linter.all false
namespace Go.Proofs.YtlehfgdhebapeaaDoor.KM
open Go
/-- a list of statements -/
theorem stxts_cons (d : Nat) (x : Sp) (l : List Sp) : Sp.txts d (x :: l) = x.txt d ++ Sp.txts d l := by rw [Sp.txts]
theorem stxt_eq (d : Nat) (s : Sp) : s.txt d = indE d ++ (headE s ++ if bodyE s.op then 32 :: 123 :: 10 :: (Sp.txts (d + 1) s.body ++ ((if s.els.isEmpty then [] else indE d ++ 125 :: 32 :: 101 :: 108 :: 115 :: 101 :: 32 :: 123 :: 10 :: Sp.txts (d + 1) s.els) ++ (indE d ++ [125, 10]))) else [59, 10]) := by
  obtain ⟨op, line, nm, arg, iz, it, idx, ex, bz, bt, body, ez, et, els⟩ := s
  rw [Sp.txt]
end Go.Proofs.YtlehfgdhebapeaaDoor.KM
