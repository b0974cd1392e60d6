/- The table of functions, and that each form is the program's function. Printed by km_table.py. -/
import Derived.Test.YtlehfgdhebapeaaDoorNt
set_option linter.all false
namespace Go.Proofs.YtlehfgdhebapeaaDoor.KM
open Go
def GT (m : Int) : List (Nat × List V) := [(0, gOps), (2, gPow)]
variable {m : Int}
theorem hPow : (2, gPow) ∈ GT m := by simp [GT]
def tabL : List (Nat × AF) := [(3, af3), (7, af7), (8, af8), (9, af9), (10, af10), (14, af14), (16, af16), (19, af19), (20, af20), (21, af21), (22, af22), (23, af23), (24, af24), (26, af26), (27, af27), (28, af28), (29, af29), (30, af30), (31, af31), (32, af32), (37, af37), (38, af38), (39, af39), (40, af40), (44, af44), (45, af45), (47, af47), (50, af50), (52, af52), (53, af53), (54, af54), (55, af55), (61, af61), (62, af62), (63, af63), (64, af64), (65, af65), (66, af66), (71, af71), (78, af78), (79, af79), (80, af80), (81, af81), (89, af89), (90, af90), (107, af107)]
def prL : List (Nat × (List V → Option V)) := [(25, joinS), (46, itoaS), (49, repS), (51, fmtS)]
def TT (f : Nat) : Option AF := tabL.lookup f
def PT (f : Nat) : Option (List V → Option V) := prL.lookup f
theorem T3 : TT 3 = some af3 := by rfl
theorem T7 : TT 7 = some af7 := by rfl
theorem T8 : TT 8 = some af8 := by rfl
theorem T9 : TT 9 = some af9 := by rfl
theorem T10 : TT 10 = some af10 := by rfl
theorem T14 : TT 14 = some af14 := by rfl
theorem T16 : TT 16 = some af16 := by rfl
theorem T19 : TT 19 = some af19 := by rfl
theorem T20 : TT 20 = some af20 := by rfl
theorem T21 : TT 21 = some af21 := by rfl
theorem T22 : TT 22 = some af22 := by rfl
theorem T23 : TT 23 = some af23 := by rfl
theorem T24 : TT 24 = some af24 := by rfl
theorem T26 : TT 26 = some af26 := by rfl
theorem T27 : TT 27 = some af27 := by rfl
theorem T28 : TT 28 = some af28 := by rfl
theorem T29 : TT 29 = some af29 := by rfl
theorem T30 : TT 30 = some af30 := by rfl
theorem T31 : TT 31 = some af31 := by rfl
theorem T32 : TT 32 = some af32 := by rfl
theorem T37 : TT 37 = some af37 := by rfl
theorem T38 : TT 38 = some af38 := by rfl
theorem T39 : TT 39 = some af39 := by rfl
theorem T40 : TT 40 = some af40 := by rfl
theorem T44 : TT 44 = some af44 := by rfl
theorem T45 : TT 45 = some af45 := by rfl
theorem T47 : TT 47 = some af47 := by rfl
theorem T50 : TT 50 = some af50 := by rfl
theorem T52 : TT 52 = some af52 := by rfl
theorem T53 : TT 53 = some af53 := by rfl
theorem T54 : TT 54 = some af54 := by rfl
theorem T55 : TT 55 = some af55 := by rfl
theorem T61 : TT 61 = some af61 := by rfl
theorem T62 : TT 62 = some af62 := by rfl
theorem T63 : TT 63 = some af63 := by rfl
theorem T64 : TT 64 = some af64 := by rfl
theorem T65 : TT 65 = some af65 := by rfl
theorem T66 : TT 66 = some af66 := by rfl
theorem T71 : TT 71 = some af71 := by rfl
theorem T78 : TT 78 = some af78 := by rfl
theorem T79 : TT 79 = some af79 := by rfl
theorem T80 : TT 80 = some af80 := by rfl
theorem T81 : TT 81 = some af81 := by rfl
theorem T89 : TT 89 = some af89 := by rfl
theorem T90 : TT 90 = some af90 := by rfl
theorem T107 : TT 107 = some af107 := by rfl
theorem P25 : PT 25 = some joinS := by rfl
theorem P46 : PT 46 = some itoaS := by rfl
theorem P49 : PT 49 = some repS := by rfl
theorem P51 : PT 51 = some fmtS := by rfl
theorem ok3 : okF Tryd.prog (GT m) 3 af3 = true := by kernel_rfl
theorem ok7 : okF Tryd.prog (GT m) 7 af7 = true := by kernel_rfl
theorem ok8 : okF Tryd.prog (GT m) 8 af8 = true := by kernel_rfl
theorem ok9 : okF Tryd.prog (GT m) 9 af9 = true := by kernel_rfl
theorem ok10 : okF Tryd.prog (GT m) 10 af10 = true := by kernel_rfl
theorem ok14 : okF Tryd.prog (GT m) 14 af14 = true := by kernel_rfl
theorem ok16 : okF Tryd.prog (GT m) 16 af16 = true := by kernel_rfl
theorem ok19 : okF Tryd.prog (GT m) 19 af19 = true := by kernel_rfl
theorem ok20 : okF Tryd.prog (GT m) 20 af20 = true := by kernel_rfl
theorem ok21 : okF Tryd.prog (GT m) 21 af21 = true := by kernel_rfl
theorem ok22 : okF Tryd.prog (GT m) 22 af22 = true := by kernel_rfl
theorem ok23 : okF Tryd.prog (GT m) 23 af23 = true := by kernel_rfl
theorem ok24 : okF Tryd.prog (GT m) 24 af24 = true := by kernel_rfl
theorem ok26 : okF Tryd.prog (GT m) 26 af26 = true := by kernel_rfl
theorem ok28 : okF Tryd.prog (GT m) 28 af28 = true := by kernel_rfl
theorem ok29 : okF Tryd.prog (GT m) 29 af29 = true := by kernel_rfl
theorem ok30 : okF Tryd.prog (GT m) 30 af30 = true := by kernel_rfl
theorem ok31 : okF Tryd.prog (GT m) 31 af31 = true := by kernel_rfl
theorem ok32 : okF Tryd.prog (GT m) 32 af32 = true := by kernel_rfl
theorem ok37 : okF Tryd.prog (GT m) 37 af37 = true := by kernel_rfl
theorem ok38 : okF Tryd.prog (GT m) 38 af38 = true := by kernel_rfl
theorem ok39 : okF Tryd.prog (GT m) 39 af39 = true := by kernel_rfl
theorem ok40 : okF Tryd.prog (GT m) 40 af40 = true := by kernel_rfl
theorem ok44 : okF Tryd.prog (GT m) 44 af44 = true := by kernel_rfl
theorem ok47 : okF Tryd.prog (GT m) 47 af47 = true := by kernel_rfl
theorem ok50 : okF Tryd.prog (GT m) 50 af50 = true := by kernel_rfl
theorem ok52 : okF Tryd.prog (GT m) 52 af52 = true := by kernel_rfl
theorem ok53 : okF Tryd.prog (GT m) 53 af53 = true := by kernel_rfl
theorem ok54 : okF Tryd.prog (GT m) 54 af54 = true := by kernel_rfl
theorem ok55 : okF Tryd.prog (GT m) 55 af55 = true := by kernel_rfl
theorem ok61 : okF Tryd.prog (GT m) 61 af61 = true := by kernel_rfl
theorem ok62 : okF Tryd.prog (GT m) 62 af62 = true := by kernel_rfl
theorem ok63 : okF Tryd.prog (GT m) 63 af63 = true := by kernel_rfl
theorem ok64 : okF Tryd.prog (GT m) 64 af64 = true := by kernel_rfl
theorem ok65 : okF Tryd.prog (GT m) 65 af65 = true := by kernel_rfl
theorem ok66 : okF Tryd.prog (GT m) 66 af66 = true := by kernel_rfl
theorem ok71 : okF Tryd.prog (GT m) 71 af71 = true := by kernel_rfl
theorem ok78 : okF Tryd.prog (GT m) 78 af78 = true := by kernel_rfl
theorem ok79 : okF Tryd.prog (GT m) 79 af79 = true := by kernel_rfl
theorem ok80 : okF Tryd.prog (GT m) 80 af80 = true := by kernel_rfl
theorem ok81 : okF Tryd.prog (GT m) 81 af81 = true := by kernel_rfl
theorem ok89 : okF Tryd.prog (GT m) 89 af89 = true := by kernel_rfl
theorem ok90 : okF Tryd.prog (GT m) 90 af90 = true := by kernel_rfl
theorem ok107 : okF Tryd.prog (GT m) 107 af107 = true := by kernel_rfl
theorem lookup_mem {α : Type} : ∀ {l : List (Nat × α)} {f : Nat} {a : α}, l.lookup f = some a → (f, a) ∈ l
  | [], _, _, h => by cases h
  | (g, b) :: l, f, a, h => by
    rw [List.lookup_cons] at h
    split at h
    · rename_i he
      cases h
      rw [eq_of_beq he]
      exact List.mem_cons_self
    · exact List.mem_cons_of_mem _ (lookup_mem h)
theorem hTT : ∀ f F, TT f = some F → F.spec = none → okF Tryd.prog (GT m) f F = true := by
  intro f F h hs
  have hm := lookup_mem h
  simp only [tabL, List.mem_cons, List.not_mem_nil, or_false, Prod.mk.injEq] at hm
  rcases hm with ⟨rfl, rfl⟩ | ⟨rfl, rfl⟩ | ⟨rfl, rfl⟩ | ⟨rfl, rfl⟩ | ⟨rfl, rfl⟩ | ⟨rfl, rfl⟩ | ⟨rfl, rfl⟩ | ⟨rfl, rfl⟩ | ⟨rfl, rfl⟩ | ⟨rfl, rfl⟩ | ⟨rfl, rfl⟩ | ⟨rfl, rfl⟩ | ⟨rfl, rfl⟩ | ⟨rfl, rfl⟩ | ⟨rfl, rfl⟩ | ⟨rfl, rfl⟩ | ⟨rfl, rfl⟩ | ⟨rfl, rfl⟩ | ⟨rfl, rfl⟩ | ⟨rfl, rfl⟩ | ⟨rfl, rfl⟩ | ⟨rfl, rfl⟩ | ⟨rfl, rfl⟩ | ⟨rfl, rfl⟩ | ⟨rfl, rfl⟩ | ⟨rfl, rfl⟩ | ⟨rfl, rfl⟩ | ⟨rfl, rfl⟩ | ⟨rfl, rfl⟩ | ⟨rfl, rfl⟩ | ⟨rfl, rfl⟩ | ⟨rfl, rfl⟩ | ⟨rfl, rfl⟩ | ⟨rfl, rfl⟩ | ⟨rfl, rfl⟩ | ⟨rfl, rfl⟩ | ⟨rfl, rfl⟩ | ⟨rfl, rfl⟩ | ⟨rfl, rfl⟩ | ⟨rfl, rfl⟩ | ⟨rfl, rfl⟩ | ⟨rfl, rfl⟩ | ⟨rfl, rfl⟩ | ⟨rfl, rfl⟩ | ⟨rfl, rfl⟩ | ⟨rfl, rfl⟩
  · exact ok3
  · exact ok7
  · exact ok8
  · exact ok9
  · exact ok10
  · exact ok14
  · exact ok16
  · exact ok19
  · exact ok20
  · exact ok21
  · exact ok22
  · exact ok23
  · exact ok24
  · exact ok26
  · cases hs
  · exact ok28
  · exact ok29
  · exact ok30
  · exact ok31
  · exact ok32
  · exact ok37
  · exact ok38
  · exact ok39
  · exact ok40
  · exact ok44
  · cases hs
  · exact ok47
  · exact ok50
  · exact ok52
  · exact ok53
  · exact ok54
  · exact ok55
  · exact ok61
  · exact ok62
  · exact ok63
  · exact ok64
  · exact ok65
  · exact ok66
  · exact ok71
  · exact ok78
  · exact ok79
  · exact ok80
  · exact ok81
  · exact ok89
  · exact ok90
  · exact ok107
theorem hST : ∀ f F s, TT f = some F → F.spec = some s → ThrOk Tryd.prog (GT m) f s := by
  intro f F s h hs
  have hm := lookup_mem h
  simp only [tabL, List.mem_cons, List.not_mem_nil, or_false, Prod.mk.injEq] at hm
  rcases hm with ⟨rfl, rfl⟩ | ⟨rfl, rfl⟩ | ⟨rfl, rfl⟩ | ⟨rfl, rfl⟩ | ⟨rfl, rfl⟩ | ⟨rfl, rfl⟩ | ⟨rfl, rfl⟩ | ⟨rfl, rfl⟩ | ⟨rfl, rfl⟩ | ⟨rfl, rfl⟩ | ⟨rfl, rfl⟩ | ⟨rfl, rfl⟩ | ⟨rfl, rfl⟩ | ⟨rfl, rfl⟩ | ⟨rfl, rfl⟩ | ⟨rfl, rfl⟩ | ⟨rfl, rfl⟩ | ⟨rfl, rfl⟩ | ⟨rfl, rfl⟩ | ⟨rfl, rfl⟩ | ⟨rfl, rfl⟩ | ⟨rfl, rfl⟩ | ⟨rfl, rfl⟩ | ⟨rfl, rfl⟩ | ⟨rfl, rfl⟩ | ⟨rfl, rfl⟩ | ⟨rfl, rfl⟩ | ⟨rfl, rfl⟩ | ⟨rfl, rfl⟩ | ⟨rfl, rfl⟩ | ⟨rfl, rfl⟩ | ⟨rfl, rfl⟩ | ⟨rfl, rfl⟩ | ⟨rfl, rfl⟩ | ⟨rfl, rfl⟩ | ⟨rfl, rfl⟩ | ⟨rfl, rfl⟩ | ⟨rfl, rfl⟩ | ⟨rfl, rfl⟩ | ⟨rfl, rfl⟩ | ⟨rfl, rfl⟩ | ⟨rfl, rfl⟩ | ⟨rfl, rfl⟩ | ⟨rfl, rfl⟩ | ⟨rfl, rfl⟩ | ⟨rfl, rfl⟩
  · cases hs
  · cases hs
  · cases hs
  · cases hs
  · cases hs
  · cases hs
  · cases hs
  · cases hs
  · cases hs
  · cases hs
  · cases hs
  · cases hs
  · cases hs
  · cases hs
  · cases hs; exact str_ok
  · cases hs
  · cases hs
  · cases hs
  · cases hs
  · cases hs
  · cases hs
  · cases hs
  · cases hs
  · cases hs
  · cases hs
  · cases hs; exact cc_ok
  · cases hs
  · cases hs
  · cases hs
  · cases hs
  · cases hs
  · cases hs
  · cases hs
  · cases hs
  · cases hs
  · cases hs
  · cases hs
  · cases hs
  · cases hs
  · cases hs
  · cases hs
  · cases hs
  · cases hs
  · cases hs
  · cases hs
  · cases hs
theorem hPT : ∀ f s, PT f = some s → PrimOk Tryd.prog (GT m) f s := by
  intro f s h
  have hm := lookup_mem h
  simp only [prL, List.mem_cons, List.not_mem_nil, or_false, Prod.mk.injEq] at hm
  rcases hm with ⟨rfl, rfl⟩ | ⟨rfl, rfl⟩ | ⟨rfl, rfl⟩ | ⟨rfl, rfl⟩
  · exact join_ok
  · exact itoa_ok hPow
  · exact rep_ok
  · exact fmt_ok hPow
theorem hSt : ∀ f F, TT f = some F → F.spec = none → statQ F.body = true := by
  intro f F h _
  have hm := lookup_mem h
  have hall : (tabL.all fun p => statQ p.2.body) = true := by kernel_rfl
  exact List.all_eq_true.1 hall _ hm
end Go.Proofs.YtlehfgdhebapeaaDoor.KM
