/- The table of functions, and that each form is the program's function. Printed by km_table.py. -/
import Derived.Test.YtlehfgdhebapeaaDoorNt
set_option linter.all false
namespace Go.Proofs.YtlehfgdhebapeaaDoor.KM
open Go
def GT (m : Int) : List (Nat × List V) := [(0, gOps), (2, gPow)]
variable {m : Int}
theorem hPow : (2, gPow) ∈ GT m := by simp [GT]
def tabL : List (Nat × AF) := [(4, af4), (5, af5), (8, af8), (9, af9), (10, af10), (11, af11), (12, af12), (13, af13), (14, af14), (16, af16), (19, af19), (20, af20), (23, af23), (24, af24), (26, af26), (27, af27), (28, af28), (29, af29), (30, af30), (31, af31), (32, af32), (33, af33), (34, af34), (35, af35), (36, af36), (37, af37), (38, af38), (40, af40), (45, af45), (47, af47), (50, af50), (52, af52), (53, af53), (54, af54), (55, af55), (56, af56), (57, af57), (58, af58), (59, af59), (60, af60), (61, af61), (62, af62), (63, af63), (64, af64), (65, af65), (66, af66), (78, af78), (79, af79), (80, af80), (81, af81), (82, af82), (83, af83), (84, af84), (85, af85), (86, af86), (87, af87), (88, af88), (89, af89), (90, af90), (107, af107), (108, af108), (109, af109), (110, af110), (111, af111), (112, af112), (125, af125), (126, af126), (127, af127)]
def prL : List (Nat × (List V → Option V)) := [(25, joinS), (46, itoaS), (49, repS), (51, fmtS)]
def TT (f : Nat) : Option AF := tabL.lookup f
def PT (f : Nat) : Option (List V → Option V) := prL.lookup f
theorem T4 : TT 4 = some af4 := by rfl
theorem T5 : TT 5 = some af5 := by rfl
theorem T8 : TT 8 = some af8 := by rfl
theorem T9 : TT 9 = some af9 := by rfl
theorem T10 : TT 10 = some af10 := by rfl
theorem T11 : TT 11 = some af11 := by rfl
theorem T12 : TT 12 = some af12 := by rfl
theorem T13 : TT 13 = some af13 := by rfl
theorem T14 : TT 14 = some af14 := by rfl
theorem T16 : TT 16 = some af16 := by rfl
theorem T19 : TT 19 = some af19 := by rfl
theorem T20 : TT 20 = some af20 := by rfl
theorem T23 : TT 23 = some af23 := by rfl
theorem T24 : TT 24 = some af24 := by rfl
theorem T26 : TT 26 = some af26 := by rfl
theorem T27 : TT 27 = some af27 := by rfl
theorem T28 : TT 28 = some af28 := by rfl
theorem T29 : TT 29 = some af29 := by rfl
theorem T30 : TT 30 = some af30 := by rfl
theorem T31 : TT 31 = some af31 := by rfl
theorem T32 : TT 32 = some af32 := by rfl
theorem T33 : TT 33 = some af33 := by rfl
theorem T34 : TT 34 = some af34 := by rfl
theorem T35 : TT 35 = some af35 := by rfl
theorem T36 : TT 36 = some af36 := by rfl
theorem T37 : TT 37 = some af37 := by rfl
theorem T38 : TT 38 = some af38 := by rfl
theorem T40 : TT 40 = some af40 := by rfl
theorem T45 : TT 45 = some af45 := by rfl
theorem T47 : TT 47 = some af47 := by rfl
theorem T50 : TT 50 = some af50 := by rfl
theorem T52 : TT 52 = some af52 := by rfl
theorem T53 : TT 53 = some af53 := by rfl
theorem T54 : TT 54 = some af54 := by rfl
theorem T55 : TT 55 = some af55 := by rfl
theorem T56 : TT 56 = some af56 := by rfl
theorem T57 : TT 57 = some af57 := by rfl
theorem T58 : TT 58 = some af58 := by rfl
theorem T59 : TT 59 = some af59 := by rfl
theorem T60 : TT 60 = some af60 := by rfl
theorem T61 : TT 61 = some af61 := by rfl
theorem T62 : TT 62 = some af62 := by rfl
theorem T63 : TT 63 = some af63 := by rfl
theorem T64 : TT 64 = some af64 := by rfl
theorem T65 : TT 65 = some af65 := by rfl
theorem T66 : TT 66 = some af66 := by rfl
theorem T78 : TT 78 = some af78 := by rfl
theorem T79 : TT 79 = some af79 := by rfl
theorem T80 : TT 80 = some af80 := by rfl
theorem T81 : TT 81 = some af81 := by rfl
theorem T82 : TT 82 = some af82 := by rfl
theorem T83 : TT 83 = some af83 := by rfl
theorem T84 : TT 84 = some af84 := by rfl
theorem T85 : TT 85 = some af85 := by rfl
theorem T86 : TT 86 = some af86 := by rfl
theorem T87 : TT 87 = some af87 := by rfl
theorem T88 : TT 88 = some af88 := by rfl
theorem T89 : TT 89 = some af89 := by rfl
theorem T90 : TT 90 = some af90 := by rfl
theorem T107 : TT 107 = some af107 := by rfl
theorem T108 : TT 108 = some af108 := by rfl
theorem T109 : TT 109 = some af109 := by rfl
theorem T110 : TT 110 = some af110 := by rfl
theorem T111 : TT 111 = some af111 := by rfl
theorem T112 : TT 112 = some af112 := by rfl
theorem T125 : TT 125 = some af125 := by rfl
theorem T126 : TT 126 = some af126 := by rfl
theorem T127 : TT 127 = some af127 := by rfl
theorem P25 : PT 25 = some joinS := by rfl
theorem P46 : PT 46 = some itoaS := by rfl
theorem P49 : PT 49 = some repS := by rfl
theorem P51 : PT 51 = some fmtS := by rfl
theorem ok4 : okF Tryd.prog (GT m) 4 af4 = true := by kernel_rfl
theorem ok5 : okF Tryd.prog (GT m) 5 af5 = true := by kernel_rfl
theorem ok8 : okF Tryd.prog (GT m) 8 af8 = true := by kernel_rfl
theorem ok9 : okF Tryd.prog (GT m) 9 af9 = true := by kernel_rfl
theorem ok10 : okF Tryd.prog (GT m) 10 af10 = true := by kernel_rfl
theorem ok11 : okF Tryd.prog (GT m) 11 af11 = true := by kernel_rfl
theorem ok12 : okF Tryd.prog (GT m) 12 af12 = true := by kernel_rfl
theorem ok13 : okF Tryd.prog (GT m) 13 af13 = true := by kernel_rfl
theorem ok14 : okF Tryd.prog (GT m) 14 af14 = true := by kernel_rfl
theorem ok16 : okF Tryd.prog (GT m) 16 af16 = true := by kernel_rfl
theorem ok19 : okF Tryd.prog (GT m) 19 af19 = true := by kernel_rfl
theorem ok20 : okF Tryd.prog (GT m) 20 af20 = true := by kernel_rfl
theorem ok23 : okF Tryd.prog (GT m) 23 af23 = true := by kernel_rfl
theorem ok24 : okF Tryd.prog (GT m) 24 af24 = true := by kernel_rfl
theorem ok26 : okF Tryd.prog (GT m) 26 af26 = true := by kernel_rfl
theorem ok28 : okF Tryd.prog (GT m) 28 af28 = true := by kernel_rfl
theorem ok29 : okF Tryd.prog (GT m) 29 af29 = true := by kernel_rfl
theorem ok30 : okF Tryd.prog (GT m) 30 af30 = true := by kernel_rfl
theorem ok31 : okF Tryd.prog (GT m) 31 af31 = true := by kernel_rfl
theorem ok32 : okF Tryd.prog (GT m) 32 af32 = true := by kernel_rfl
theorem ok33 : okF Tryd.prog (GT m) 33 af33 = true := by kernel_rfl
theorem ok34 : okF Tryd.prog (GT m) 34 af34 = true := by kernel_rfl
theorem ok35 : okF Tryd.prog (GT m) 35 af35 = true := by kernel_rfl
theorem ok36 : okF Tryd.prog (GT m) 36 af36 = true := by kernel_rfl
theorem ok37 : okF Tryd.prog (GT m) 37 af37 = true := by kernel_rfl
theorem ok38 : okF Tryd.prog (GT m) 38 af38 = true := by kernel_rfl
theorem ok40 : okF Tryd.prog (GT m) 40 af40 = true := by kernel_rfl
theorem ok47 : okF Tryd.prog (GT m) 47 af47 = true := by kernel_rfl
theorem ok50 : okF Tryd.prog (GT m) 50 af50 = true := by kernel_rfl
theorem ok52 : okF Tryd.prog (GT m) 52 af52 = true := by kernel_rfl
theorem ok53 : okF Tryd.prog (GT m) 53 af53 = true := by kernel_rfl
theorem ok54 : okF Tryd.prog (GT m) 54 af54 = true := by kernel_rfl
theorem ok55 : okF Tryd.prog (GT m) 55 af55 = true := by kernel_rfl
theorem ok56 : okF Tryd.prog (GT m) 56 af56 = true := by kernel_rfl
theorem ok57 : okF Tryd.prog (GT m) 57 af57 = true := by kernel_rfl
theorem ok58 : okF Tryd.prog (GT m) 58 af58 = true := by kernel_rfl
theorem ok59 : okF Tryd.prog (GT m) 59 af59 = true := by kernel_rfl
theorem ok60 : okF Tryd.prog (GT m) 60 af60 = true := by kernel_rfl
theorem ok61 : okF Tryd.prog (GT m) 61 af61 = true := by kernel_rfl
theorem ok62 : okF Tryd.prog (GT m) 62 af62 = true := by kernel_rfl
theorem ok63 : okF Tryd.prog (GT m) 63 af63 = true := by kernel_rfl
theorem ok64 : okF Tryd.prog (GT m) 64 af64 = true := by kernel_rfl
theorem ok65 : okF Tryd.prog (GT m) 65 af65 = true := by kernel_rfl
theorem ok66 : okF Tryd.prog (GT m) 66 af66 = true := by kernel_rfl
theorem ok78 : okF Tryd.prog (GT m) 78 af78 = true := by kernel_rfl
theorem ok79 : okF Tryd.prog (GT m) 79 af79 = true := by kernel_rfl
theorem ok80 : okF Tryd.prog (GT m) 80 af80 = true := by kernel_rfl
theorem ok81 : okF Tryd.prog (GT m) 81 af81 = true := by kernel_rfl
theorem ok82 : okF Tryd.prog (GT m) 82 af82 = true := by kernel_rfl
theorem ok83 : okF Tryd.prog (GT m) 83 af83 = true := by kernel_rfl
theorem ok84 : okF Tryd.prog (GT m) 84 af84 = true := by kernel_rfl
theorem ok85 : okF Tryd.prog (GT m) 85 af85 = true := by kernel_rfl
theorem ok86 : okF Tryd.prog (GT m) 86 af86 = true := by kernel_rfl
theorem ok87 : okF Tryd.prog (GT m) 87 af87 = true := by kernel_rfl
theorem ok88 : okF Tryd.prog (GT m) 88 af88 = true := by kernel_rfl
theorem ok89 : okF Tryd.prog (GT m) 89 af89 = true := by kernel_rfl
theorem ok90 : okF Tryd.prog (GT m) 90 af90 = true := by kernel_rfl
theorem ok107 : okF Tryd.prog (GT m) 107 af107 = true := by kernel_rfl
theorem ok108 : okF Tryd.prog (GT m) 108 af108 = true := by kernel_rfl
theorem ok109 : okF Tryd.prog (GT m) 109 af109 = true := by kernel_rfl
theorem ok110 : okF Tryd.prog (GT m) 110 af110 = true := by kernel_rfl
theorem ok111 : okF Tryd.prog (GT m) 111 af111 = true := by kernel_rfl
theorem ok112 : okF Tryd.prog (GT m) 112 af112 = true := by kernel_rfl
theorem ok125 : okF Tryd.prog (GT m) 125 af125 = true := by kernel_rfl
theorem ok126 : okF Tryd.prog (GT m) 126 af126 = true := by kernel_rfl
theorem ok127 : okF Tryd.prog (GT m) 127 af127 = true := by kernel_rfl
theorem lookup_mem {α : Type} : ∀ {l : List (Nat × α)} {f : Nat} {a : α}, l.lookup f = some a → (f, a) ∈ l
  | [], _, _, h => by cases h
  | (g, b) :: l, f, a, h => by
    rw [List.lookup_cons] at h
    split at h
    · rename_i he
      cases h
      rw [eq_of_beq he]
      exact List.mem_cons_self
    · exact List.mem_cons_of_mem _ (lookup_mem h)
theorem hTT : ∀ f F, TT f = some F → F.spec = none → okF Tryd.prog (GT m) f F = true := by
  intro f F h hs
  have hm := lookup_mem h
  simp only [tabL, List.mem_cons, List.not_mem_nil, or_false, Prod.mk.injEq] at hm
  rcases hm with ⟨rfl, rfl⟩ | ⟨rfl, rfl⟩ | ⟨rfl, rfl⟩ | ⟨rfl, rfl⟩ | ⟨rfl, rfl⟩ | ⟨rfl, rfl⟩ | ⟨rfl, rfl⟩ | ⟨rfl, rfl⟩ | ⟨rfl, rfl⟩ | ⟨rfl, rfl⟩ | ⟨rfl, rfl⟩ | ⟨rfl, rfl⟩ | ⟨rfl, rfl⟩ | ⟨rfl, rfl⟩ | ⟨rfl, rfl⟩ | ⟨rfl, rfl⟩ | ⟨rfl, rfl⟩ | ⟨rfl, rfl⟩ | ⟨rfl, rfl⟩ | ⟨rfl, rfl⟩ | ⟨rfl, rfl⟩ | ⟨rfl, rfl⟩ | ⟨rfl, rfl⟩ | ⟨rfl, rfl⟩ | ⟨rfl, rfl⟩ | ⟨rfl, rfl⟩ | ⟨rfl, rfl⟩ | ⟨rfl, rfl⟩ | ⟨rfl, rfl⟩ | ⟨rfl, rfl⟩ | ⟨rfl, rfl⟩ | ⟨rfl, rfl⟩ | ⟨rfl, rfl⟩ | ⟨rfl, rfl⟩ | ⟨rfl, rfl⟩ | ⟨rfl, rfl⟩ | ⟨rfl, rfl⟩ | ⟨rfl, rfl⟩ | ⟨rfl, rfl⟩ | ⟨rfl, rfl⟩ | ⟨rfl, rfl⟩ | ⟨rfl, rfl⟩ | ⟨rfl, rfl⟩ | ⟨rfl, rfl⟩ | ⟨rfl, rfl⟩ | ⟨rfl, rfl⟩ | ⟨rfl, rfl⟩ | ⟨rfl, rfl⟩ | ⟨rfl, rfl⟩ | ⟨rfl, rfl⟩ | ⟨rfl, rfl⟩ | ⟨rfl, rfl⟩ | ⟨rfl, rfl⟩ | ⟨rfl, rfl⟩ | ⟨rfl, rfl⟩ | ⟨rfl, rfl⟩ | ⟨rfl, rfl⟩ | ⟨rfl, rfl⟩ | ⟨rfl, rfl⟩ | ⟨rfl, rfl⟩ | ⟨rfl, rfl⟩ | ⟨rfl, rfl⟩ | ⟨rfl, rfl⟩ | ⟨rfl, rfl⟩ | ⟨rfl, rfl⟩ | ⟨rfl, rfl⟩ | ⟨rfl, rfl⟩ | ⟨rfl, rfl⟩
  · exact ok4
  · exact ok5
  · exact ok8
  · exact ok9
  · exact ok10
  · exact ok11
  · exact ok12
  · exact ok13
  · exact ok14
  · exact ok16
  · exact ok19
  · exact ok20
  · exact ok23
  · exact ok24
  · exact ok26
  · cases hs
  · exact ok28
  · exact ok29
  · exact ok30
  · exact ok31
  · exact ok32
  · exact ok33
  · exact ok34
  · exact ok35
  · exact ok36
  · exact ok37
  · exact ok38
  · exact ok40
  · cases hs
  · exact ok47
  · exact ok50
  · exact ok52
  · exact ok53
  · exact ok54
  · exact ok55
  · exact ok56
  · exact ok57
  · exact ok58
  · exact ok59
  · exact ok60
  · exact ok61
  · exact ok62
  · exact ok63
  · exact ok64
  · exact ok65
  · exact ok66
  · exact ok78
  · exact ok79
  · exact ok80
  · exact ok81
  · exact ok82
  · exact ok83
  · exact ok84
  · exact ok85
  · exact ok86
  · exact ok87
  · exact ok88
  · exact ok89
  · exact ok90
  · exact ok107
  · exact ok108
  · exact ok109
  · exact ok110
  · exact ok111
  · exact ok112
  · exact ok125
  · exact ok126
  · exact ok127
theorem hST : ∀ f F s, TT f = some F → F.spec = some s → ThrOk Tryd.prog (GT m) f s := by
  intro f F s h hs
  have hm := lookup_mem h
  simp only [tabL, List.mem_cons, List.not_mem_nil, or_false, Prod.mk.injEq] at hm
  rcases hm with ⟨rfl, rfl⟩ | ⟨rfl, rfl⟩ | ⟨rfl, rfl⟩ | ⟨rfl, rfl⟩ | ⟨rfl, rfl⟩ | ⟨rfl, rfl⟩ | ⟨rfl, rfl⟩ | ⟨rfl, rfl⟩ | ⟨rfl, rfl⟩ | ⟨rfl, rfl⟩ | ⟨rfl, rfl⟩ | ⟨rfl, rfl⟩ | ⟨rfl, rfl⟩ | ⟨rfl, rfl⟩ | ⟨rfl, rfl⟩ | ⟨rfl, rfl⟩ | ⟨rfl, rfl⟩ | ⟨rfl, rfl⟩ | ⟨rfl, rfl⟩ | ⟨rfl, rfl⟩ | ⟨rfl, rfl⟩ | ⟨rfl, rfl⟩ | ⟨rfl, rfl⟩ | ⟨rfl, rfl⟩ | ⟨rfl, rfl⟩ | ⟨rfl, rfl⟩ | ⟨rfl, rfl⟩ | ⟨rfl, rfl⟩ | ⟨rfl, rfl⟩ | ⟨rfl, rfl⟩ | ⟨rfl, rfl⟩ | ⟨rfl, rfl⟩ | ⟨rfl, rfl⟩ | ⟨rfl, rfl⟩ | ⟨rfl, rfl⟩ | ⟨rfl, rfl⟩ | ⟨rfl, rfl⟩ | ⟨rfl, rfl⟩ | ⟨rfl, rfl⟩ | ⟨rfl, rfl⟩ | ⟨rfl, rfl⟩ | ⟨rfl, rfl⟩ | ⟨rfl, rfl⟩ | ⟨rfl, rfl⟩ | ⟨rfl, rfl⟩ | ⟨rfl, rfl⟩ | ⟨rfl, rfl⟩ | ⟨rfl, rfl⟩ | ⟨rfl, rfl⟩ | ⟨rfl, rfl⟩ | ⟨rfl, rfl⟩ | ⟨rfl, rfl⟩ | ⟨rfl, rfl⟩ | ⟨rfl, rfl⟩ | ⟨rfl, rfl⟩ | ⟨rfl, rfl⟩ | ⟨rfl, rfl⟩ | ⟨rfl, rfl⟩ | ⟨rfl, rfl⟩ | ⟨rfl, rfl⟩ | ⟨rfl, rfl⟩ | ⟨rfl, rfl⟩ | ⟨rfl, rfl⟩ | ⟨rfl, rfl⟩ | ⟨rfl, rfl⟩ | ⟨rfl, rfl⟩ | ⟨rfl, rfl⟩ | ⟨rfl, rfl⟩
  · cases hs
  · cases hs
  · cases hs
  · cases hs
  · cases hs
  · cases hs
  · cases hs
  · cases hs
  · cases hs
  · cases hs
  · cases hs
  · cases hs
  · cases hs
  · cases hs
  · cases hs
  · cases hs; exact str_ok
  · cases hs
  · cases hs
  · cases hs
  · cases hs
  · cases hs
  · cases hs
  · cases hs
  · cases hs
  · cases hs
  · cases hs
  · cases hs
  · cases hs
  · cases hs; exact cc_ok
  · cases hs
  · cases hs
  · cases hs
  · cases hs
  · cases hs
  · cases hs
  · cases hs
  · cases hs
  · cases hs
  · cases hs
  · cases hs
  · cases hs
  · cases hs
  · cases hs
  · cases hs
  · cases hs
  · cases hs
  · cases hs
  · cases hs
  · cases hs
  · cases hs
  · cases hs
  · cases hs
  · cases hs
  · cases hs
  · cases hs
  · cases hs
  · cases hs
  · cases hs
  · cases hs
  · cases hs
  · cases hs
  · cases hs
  · cases hs
  · cases hs
  · cases hs
  · cases hs
  · cases hs
  · cases hs
theorem hPT : ∀ f s, PT f = some s → PrimOk Tryd.prog (GT m) f s := by
  intro f s h
  have hm := lookup_mem h
  simp only [prL, List.mem_cons, List.not_mem_nil, or_false, Prod.mk.injEq] at hm
  rcases hm with ⟨rfl, rfl⟩ | ⟨rfl, rfl⟩ | ⟨rfl, rfl⟩ | ⟨rfl, rfl⟩
  · exact join_ok
  · exact itoa_ok hPow
  · exact rep_ok
  · exact fmt_ok hPow
theorem hSt : ∀ f F, TT f = some F → F.spec = none → statQ F.body = true := by
  intro f F h _
  have hm := lookup_mem h
  have hall : (tabL.all fun p => statQ p.2.body) = true := by kernel_rfl
  exact List.all_eq_true.1 hall _ hm
end Go.Proofs.YtlehfgdhebapeaaDoor.KM
