/- The table of functions, and that each form is the program's function. Printed by km_table.py. -/
import Derived.Test.YticpkkjnajmpoaaGreatDoorNt
set_option linter.all false
namespace Go.Proofs.YticpkkjnajmpoaaGreatDoor.KM
open Go
def GT (m : Int) : List (Nat × List V) := [(0, [.int .i64 m]), (1, [.ifc]), (2, [.ifc]), (3, gPow), (4, gKw), (9, gOps)]
variable {m : Int}
theorem hPow : (3, gPow) ∈ GT m := by simp [GT]
theorem hEs : (1, [V.ifc]) ∈ GT m := by simp [GT]
theorem hEr : (2, [V.ifc]) ∈ GT m := by simp [GT]
theorem hKw : (4, gKw) ∈ GT m := by simp [GT]
theorem hMax (m : Int) : (0, [V.int .i64 m]) ∈ GT m := by simp [GT]
def tabL : List (Nat × AF) := [(7, af7), (10, af10), (14, af14), (15, af15), (16, af16), (17, af17), (18, af18), (19, af19), (20, af20), (21, af21), (22, af22), (23, af23), (30, af30), (31, af31), (32, af32), (33, af33), (34, af34), (35, af35), (36, af36), (38, af38), (39, af39), (40, af40), (41, af41), (42, af42), (43, af43), (44, af44), (45, af45), (46, af46), (47, af47), (54, af54), (55, af55), (56, af56), (58, af58), (59, af59), (60, af60), (61, af61), (62, af62), (63, af63), (67, af67), (69, af69), (70, af70), (72, af72), (73, af73), (74, af74), (75, af75), (76, af76), (77, af77), (78, af78), (79, af79), (80, af80), (82, af82), (83, af83), (86, af86), (96, af96), (97, af97), (98, af98), (99, af99), (100, af100), (101, af101), (102, af102), (103, af103), (104, af104), (107, af107), (108, af108), (109, af109), (125, af125), (126, af126), (127, af127), (128, af128), (129, af129), (130, af130), (131, af131), (132, af132), (133, af133), (134, af134), (135, af135), (137, af137), (138, af138), (139, af139), (156, af156), (157, af157), (158, af158), (171, af171), (172, af172), (173, af173), (176, af176), (177, af177), (178, af178), (179, af179), (180, af180), (181, af181), (182, af182), (183, af183), (185, af185), (187, af187), (191, af191), (193, af193), (194, af194), (198, af198), (199, af199), (200, af200), (202, af202), (204, af204), (205, af205)]
def prL : List (Nat × (List V → Option V)) := [(37, itoaS), (64, cutS), (65, cpS), (66, atoiS), (68, splitS), (81, cmpS), (91, splitNS), (95, hpS), (106, nameS), (124, ibS), (155, tlS), (170, piS), (184, repS), (203, fmtS)]
def TT (f : Nat) : Option AF := tabL.lookup f
def PT (f : Nat) : Option (List V → Option V) := prL.lookup f
theorem T7 : TT 7 = some af7 := by rfl
theorem T10 : TT 10 = some af10 := by rfl
theorem T14 : TT 14 = some af14 := by rfl
theorem T15 : TT 15 = some af15 := by rfl
theorem T16 : TT 16 = some af16 := by rfl
theorem T17 : TT 17 = some af17 := by rfl
theorem T18 : TT 18 = some af18 := by rfl
theorem T19 : TT 19 = some af19 := by rfl
theorem T20 : TT 20 = some af20 := by rfl
theorem T21 : TT 21 = some af21 := by rfl
theorem T22 : TT 22 = some af22 := by rfl
theorem T23 : TT 23 = some af23 := by rfl
theorem T30 : TT 30 = some af30 := by rfl
theorem T31 : TT 31 = some af31 := by rfl
theorem T32 : TT 32 = some af32 := by rfl
theorem T33 : TT 33 = some af33 := by rfl
theorem T34 : TT 34 = some af34 := by rfl
theorem T35 : TT 35 = some af35 := by rfl
theorem T36 : TT 36 = some af36 := by rfl
theorem T38 : TT 38 = some af38 := by rfl
theorem T39 : TT 39 = some af39 := by rfl
theorem T40 : TT 40 = some af40 := by rfl
theorem T41 : TT 41 = some af41 := by rfl
theorem T42 : TT 42 = some af42 := by rfl
theorem T43 : TT 43 = some af43 := by rfl
theorem T44 : TT 44 = some af44 := by rfl
theorem T45 : TT 45 = some af45 := by rfl
theorem T46 : TT 46 = some af46 := by rfl
theorem T47 : TT 47 = some af47 := by rfl
theorem T54 : TT 54 = some af54 := by rfl
theorem T55 : TT 55 = some af55 := by rfl
theorem T56 : TT 56 = some af56 := by rfl
theorem T58 : TT 58 = some af58 := by rfl
theorem T59 : TT 59 = some af59 := by rfl
theorem T60 : TT 60 = some af60 := by rfl
theorem T61 : TT 61 = some af61 := by rfl
theorem T62 : TT 62 = some af62 := by rfl
theorem T63 : TT 63 = some af63 := by rfl
theorem T67 : TT 67 = some af67 := by rfl
theorem T69 : TT 69 = some af69 := by rfl
theorem T70 : TT 70 = some af70 := by rfl
theorem T72 : TT 72 = some af72 := by rfl
theorem T73 : TT 73 = some af73 := by rfl
theorem T74 : TT 74 = some af74 := by rfl
theorem T75 : TT 75 = some af75 := by rfl
theorem T76 : TT 76 = some af76 := by rfl
theorem T77 : TT 77 = some af77 := by rfl
theorem T78 : TT 78 = some af78 := by rfl
theorem T79 : TT 79 = some af79 := by rfl
theorem T80 : TT 80 = some af80 := by rfl
theorem T82 : TT 82 = some af82 := by rfl
theorem T83 : TT 83 = some af83 := by rfl
theorem T86 : TT 86 = some af86 := by rfl
theorem T96 : TT 96 = some af96 := by rfl
theorem T97 : TT 97 = some af97 := by rfl
theorem T98 : TT 98 = some af98 := by rfl
theorem T99 : TT 99 = some af99 := by rfl
theorem T100 : TT 100 = some af100 := by rfl
theorem T101 : TT 101 = some af101 := by rfl
theorem T102 : TT 102 = some af102 := by rfl
theorem T103 : TT 103 = some af103 := by rfl
theorem T104 : TT 104 = some af104 := by rfl
theorem T107 : TT 107 = some af107 := by rfl
theorem T108 : TT 108 = some af108 := by rfl
theorem T109 : TT 109 = some af109 := by rfl
theorem T125 : TT 125 = some af125 := by rfl
theorem T126 : TT 126 = some af126 := by rfl
theorem T127 : TT 127 = some af127 := by rfl
theorem T128 : TT 128 = some af128 := by rfl
theorem T129 : TT 129 = some af129 := by rfl
theorem T130 : TT 130 = some af130 := by rfl
theorem T131 : TT 131 = some af131 := by rfl
theorem T132 : TT 132 = some af132 := by rfl
theorem T133 : TT 133 = some af133 := by rfl
theorem T134 : TT 134 = some af134 := by rfl
theorem T135 : TT 135 = some af135 := by rfl
theorem T137 : TT 137 = some af137 := by rfl
theorem T138 : TT 138 = some af138 := by rfl
theorem T139 : TT 139 = some af139 := by rfl
theorem T156 : TT 156 = some af156 := by rfl
theorem T157 : TT 157 = some af157 := by rfl
theorem T158 : TT 158 = some af158 := by rfl
theorem T171 : TT 171 = some af171 := by rfl
theorem T172 : TT 172 = some af172 := by rfl
theorem T173 : TT 173 = some af173 := by rfl
theorem T176 : TT 176 = some af176 := by rfl
theorem T177 : TT 177 = some af177 := by rfl
theorem T178 : TT 178 = some af178 := by rfl
theorem T179 : TT 179 = some af179 := by rfl
theorem T180 : TT 180 = some af180 := by rfl
theorem T181 : TT 181 = some af181 := by rfl
theorem T182 : TT 182 = some af182 := by rfl
theorem T183 : TT 183 = some af183 := by rfl
theorem T185 : TT 185 = some af185 := by rfl
theorem T187 : TT 187 = some af187 := by rfl
theorem T191 : TT 191 = some af191 := by rfl
theorem T193 : TT 193 = some af193 := by rfl
theorem T194 : TT 194 = some af194 := by rfl
theorem T198 : TT 198 = some af198 := by rfl
theorem T199 : TT 199 = some af199 := by rfl
theorem T200 : TT 200 = some af200 := by rfl
theorem T202 : TT 202 = some af202 := by rfl
theorem T204 : TT 204 = some af204 := by rfl
theorem T205 : TT 205 = some af205 := by rfl
theorem P37 : PT 37 = some itoaS := by rfl
theorem P64 : PT 64 = some cutS := by rfl
theorem P65 : PT 65 = some cpS := by rfl
theorem P66 : PT 66 = some atoiS := by rfl
theorem P68 : PT 68 = some splitS := by rfl
theorem P81 : PT 81 = some cmpS := by rfl
theorem P91 : PT 91 = some splitNS := by rfl
theorem P95 : PT 95 = some hpS := by rfl
theorem P106 : PT 106 = some nameS := by rfl
theorem P124 : PT 124 = some ibS := by rfl
theorem P155 : PT 155 = some tlS := by rfl
theorem P170 : PT 170 = some piS := by rfl
theorem P184 : PT 184 = some repS := by rfl
theorem P203 : PT 203 = some fmtS := by rfl
theorem ok7 : okF Tryz.prog (GT m) 7 af7 = true := by kernel_rfl
theorem ok10 : okF Tryz.prog (GT m) 10 af10 = true := by kernel_rfl
theorem ok14 : okF Tryz.prog (GT m) 14 af14 = true := by kernel_rfl
theorem ok15 : okF Tryz.prog (GT m) 15 af15 = true := by kernel_rfl
theorem ok16 : okF Tryz.prog (GT m) 16 af16 = true := by kernel_rfl
theorem ok17 : okF Tryz.prog (GT m) 17 af17 = true := by kernel_rfl
theorem ok18 : okF Tryz.prog (GT m) 18 af18 = true := by kernel_rfl
theorem ok19 : okF Tryz.prog (GT m) 19 af19 = true := by kernel_rfl
theorem ok20 : okF Tryz.prog (GT m) 20 af20 = true := by kernel_rfl
theorem ok21 : okF Tryz.prog (GT m) 21 af21 = true := by kernel_rfl
theorem ok22 : okF Tryz.prog (GT m) 22 af22 = true := by kernel_rfl
theorem ok23 : okF Tryz.prog (GT m) 23 af23 = true := by kernel_rfl
theorem ok30 : okF Tryz.prog (GT m) 30 af30 = true := by kernel_rfl
theorem ok31 : okF Tryz.prog (GT m) 31 af31 = true := by kernel_rfl
theorem ok32 : okF Tryz.prog (GT m) 32 af32 = true := by kernel_rfl
theorem ok33 : okF Tryz.prog (GT m) 33 af33 = true := by kernel_rfl
theorem ok34 : okF Tryz.prog (GT m) 34 af34 = true := by kernel_rfl
theorem ok35 : okF Tryz.prog (GT m) 35 af35 = true := by kernel_rfl
theorem ok36 : okF Tryz.prog (GT m) 36 af36 = true := by kernel_rfl
theorem ok39 : okF Tryz.prog (GT m) 39 af39 = true := by kernel_rfl
theorem ok40 : okF Tryz.prog (GT m) 40 af40 = true := by kernel_rfl
theorem ok41 : okF Tryz.prog (GT m) 41 af41 = true := by kernel_rfl
theorem ok42 : okF Tryz.prog (GT m) 42 af42 = true := by kernel_rfl
theorem ok43 : okF Tryz.prog (GT m) 43 af43 = true := by kernel_rfl
theorem ok44 : okF Tryz.prog (GT m) 44 af44 = true := by kernel_rfl
theorem ok45 : okF Tryz.prog (GT m) 45 af45 = true := by kernel_rfl
theorem ok46 : okF Tryz.prog (GT m) 46 af46 = true := by kernel_rfl
theorem ok47 : okF Tryz.prog (GT m) 47 af47 = true := by kernel_rfl
theorem ok54 : okF Tryz.prog (GT m) 54 af54 = true := by kernel_rfl
theorem ok55 : okF Tryz.prog (GT m) 55 af55 = true := by kernel_rfl
theorem ok56 : okF Tryz.prog (GT m) 56 af56 = true := by kernel_rfl
theorem ok58 : okF Tryz.prog (GT m) 58 af58 = true := by kernel_rfl
theorem ok59 : okF Tryz.prog (GT m) 59 af59 = true := by kernel_rfl
theorem ok60 : okF Tryz.prog (GT m) 60 af60 = true := by kernel_rfl
theorem ok61 : okF Tryz.prog (GT m) 61 af61 = true := by kernel_rfl
theorem ok62 : okF Tryz.prog (GT m) 62 af62 = true := by kernel_rfl
theorem ok63 : okF Tryz.prog (GT m) 63 af63 = true := by kernel_rfl
theorem ok67 : okF Tryz.prog (GT m) 67 af67 = true := by kernel_rfl
theorem ok69 : okF Tryz.prog (GT m) 69 af69 = true := by kernel_rfl
theorem ok72 : okF Tryz.prog (GT m) 72 af72 = true := by kernel_rfl
theorem ok73 : okF Tryz.prog (GT m) 73 af73 = true := by kernel_rfl
theorem ok74 : okF Tryz.prog (GT m) 74 af74 = true := by kernel_rfl
theorem ok75 : okF Tryz.prog (GT m) 75 af75 = true := by kernel_rfl
theorem ok76 : okF Tryz.prog (GT m) 76 af76 = true := by kernel_rfl
theorem ok77 : okF Tryz.prog (GT m) 77 af77 = true := by kernel_rfl
theorem ok78 : okF Tryz.prog (GT m) 78 af78 = true := by kernel_rfl
theorem ok79 : okF Tryz.prog (GT m) 79 af79 = true := by kernel_rfl
theorem ok80 : okF Tryz.prog (GT m) 80 af80 = true := by kernel_rfl
theorem ok82 : okF Tryz.prog (GT m) 82 af82 = true := by kernel_rfl
theorem ok83 : okF Tryz.prog (GT m) 83 af83 = true := by kernel_rfl
theorem ok86 : okF Tryz.prog (GT m) 86 af86 = true := by kernel_rfl
theorem ok96 : okF Tryz.prog (GT m) 96 af96 = true := by kernel_rfl
theorem ok97 : okF Tryz.prog (GT m) 97 af97 = true := by kernel_rfl
theorem ok98 : okF Tryz.prog (GT m) 98 af98 = true := by kernel_rfl
theorem ok99 : okF Tryz.prog (GT m) 99 af99 = true := by kernel_rfl
theorem ok100 : okF Tryz.prog (GT m) 100 af100 = true := by kernel_rfl
theorem ok101 : okF Tryz.prog (GT m) 101 af101 = true := by kernel_rfl
theorem ok102 : okF Tryz.prog (GT m) 102 af102 = true := by kernel_rfl
theorem ok103 : okF Tryz.prog (GT m) 103 af103 = true := by kernel_rfl
theorem ok104 : okF Tryz.prog (GT m) 104 af104 = true := by kernel_rfl
theorem ok107 : okF Tryz.prog (GT m) 107 af107 = true := by kernel_rfl
theorem ok108 : okF Tryz.prog (GT m) 108 af108 = true := by kernel_rfl
theorem ok109 : okF Tryz.prog (GT m) 109 af109 = true := by kernel_rfl
theorem ok125 : okF Tryz.prog (GT m) 125 af125 = true := by kernel_rfl
theorem ok126 : okF Tryz.prog (GT m) 126 af126 = true := by kernel_rfl
theorem ok127 : okF Tryz.prog (GT m) 127 af127 = true := by kernel_rfl
theorem ok128 : okF Tryz.prog (GT m) 128 af128 = true := by kernel_rfl
theorem ok129 : okF Tryz.prog (GT m) 129 af129 = true := by kernel_rfl
theorem ok130 : okF Tryz.prog (GT m) 130 af130 = true := by kernel_rfl
theorem ok131 : okF Tryz.prog (GT m) 131 af131 = true := by kernel_rfl
theorem ok132 : okF Tryz.prog (GT m) 132 af132 = true := by kernel_rfl
theorem ok133 : okF Tryz.prog (GT m) 133 af133 = true := by kernel_rfl
theorem ok134 : okF Tryz.prog (GT m) 134 af134 = true := by kernel_rfl
theorem ok135 : okF Tryz.prog (GT m) 135 af135 = true := by kernel_rfl
theorem ok137 : okF Tryz.prog (GT m) 137 af137 = true := by kernel_rfl
theorem ok138 : okF Tryz.prog (GT m) 138 af138 = true := by kernel_rfl
theorem ok139 : okF Tryz.prog (GT m) 139 af139 = true := by kernel_rfl
theorem ok156 : okF Tryz.prog (GT m) 156 af156 = true := by kernel_rfl
theorem ok157 : okF Tryz.prog (GT m) 157 af157 = true := by kernel_rfl
theorem ok158 : okF Tryz.prog (GT m) 158 af158 = true := by kernel_rfl
theorem ok171 : okF Tryz.prog (GT m) 171 af171 = true := by kernel_rfl
theorem ok172 : okF Tryz.prog (GT m) 172 af172 = true := by kernel_rfl
theorem ok173 : okF Tryz.prog (GT m) 173 af173 = true := by kernel_rfl
theorem ok176 : okF Tryz.prog (GT m) 176 af176 = true := by kernel_rfl
theorem ok177 : okF Tryz.prog (GT m) 177 af177 = true := by kernel_rfl
theorem ok178 : okF Tryz.prog (GT m) 178 af178 = true := by kernel_rfl
theorem ok179 : okF Tryz.prog (GT m) 179 af179 = true := by kernel_rfl
theorem ok180 : okF Tryz.prog (GT m) 180 af180 = true := by kernel_rfl
theorem ok181 : okF Tryz.prog (GT m) 181 af181 = true := by kernel_rfl
theorem ok182 : okF Tryz.prog (GT m) 182 af182 = true := by kernel_rfl
theorem ok183 : okF Tryz.prog (GT m) 183 af183 = true := by kernel_rfl
theorem ok185 : okF Tryz.prog (GT m) 185 af185 = true := by kernel_rfl
theorem ok187 : okF Tryz.prog (GT m) 187 af187 = true := by kernel_rfl
theorem ok191 : okF Tryz.prog (GT m) 191 af191 = true := by kernel_rfl
theorem ok193 : okF Tryz.prog (GT m) 193 af193 = true := by kernel_rfl
theorem ok194 : okF Tryz.prog (GT m) 194 af194 = true := by kernel_rfl
theorem ok198 : okF Tryz.prog (GT m) 198 af198 = true := by kernel_rfl
theorem ok199 : okF Tryz.prog (GT m) 199 af199 = true := by kernel_rfl
theorem ok200 : okF Tryz.prog (GT m) 200 af200 = true := by kernel_rfl
theorem ok202 : okF Tryz.prog (GT m) 202 af202 = true := by kernel_rfl
theorem ok204 : okF Tryz.prog (GT m) 204 af204 = true := by kernel_rfl
theorem ok205 : okF Tryz.prog (GT m) 205 af205 = true := by kernel_rfl
theorem lookup_mem {α : Type} : ∀ {l : List (Nat × α)} {f : Nat} {a : α}, l.lookup f = some a → (f, a) ∈ l
  | [], _, _, h => by cases h
  | (g, b) :: l, f, a, h => by
    rw [List.lookup_cons] at h
    split at h
    · rename_i he
      cases h
      rw [eq_of_beq he]
      exact List.mem_cons_self
    · exact List.mem_cons_of_mem _ (lookup_mem h)
theorem hTT : ∀ f F, TT f = some F → F.spec = none → okF Tryz.prog (GT m) f F = true := by
  intro f F h hs
  have hm := lookup_mem h
  simp only [tabL, List.mem_cons, List.not_mem_nil, or_false, Prod.mk.injEq] at hm
  rcases hm with ⟨rfl, rfl⟩ | ⟨rfl, rfl⟩ | ⟨rfl, rfl⟩ | ⟨rfl, rfl⟩ | ⟨rfl, rfl⟩ | ⟨rfl, rfl⟩ | ⟨rfl, rfl⟩ | ⟨rfl, rfl⟩ | ⟨rfl, rfl⟩ | ⟨rfl, rfl⟩ | ⟨rfl, rfl⟩ | ⟨rfl, rfl⟩ | ⟨rfl, rfl⟩ | ⟨rfl, rfl⟩ | ⟨rfl, rfl⟩ | ⟨rfl, rfl⟩ | ⟨rfl, rfl⟩ | ⟨rfl, rfl⟩ | ⟨rfl, rfl⟩ | ⟨rfl, rfl⟩ | ⟨rfl, rfl⟩ | ⟨rfl, rfl⟩ | ⟨rfl, rfl⟩ | ⟨rfl, rfl⟩ | ⟨rfl, rfl⟩ | ⟨rfl, rfl⟩ | ⟨rfl, rfl⟩ | ⟨rfl, rfl⟩ | ⟨rfl, rfl⟩ | ⟨rfl, rfl⟩ | ⟨rfl, rfl⟩ | ⟨rfl, rfl⟩ | ⟨rfl, rfl⟩ | ⟨rfl, rfl⟩ | ⟨rfl, rfl⟩ | ⟨rfl, rfl⟩ | ⟨rfl, rfl⟩ | ⟨rfl, rfl⟩ | ⟨rfl, rfl⟩ | ⟨rfl, rfl⟩ | ⟨rfl, rfl⟩ | ⟨rfl, rfl⟩ | ⟨rfl, rfl⟩ | ⟨rfl, rfl⟩ | ⟨rfl, rfl⟩ | ⟨rfl, rfl⟩ | ⟨rfl, rfl⟩ | ⟨rfl, rfl⟩ | ⟨rfl, rfl⟩ | ⟨rfl, rfl⟩ | ⟨rfl, rfl⟩ | ⟨rfl, rfl⟩ | ⟨rfl, rfl⟩ | ⟨rfl, rfl⟩ | ⟨rfl, rfl⟩ | ⟨rfl, rfl⟩ | ⟨rfl, rfl⟩ | ⟨rfl, rfl⟩ | ⟨rfl, rfl⟩ | ⟨rfl, rfl⟩ | ⟨rfl, rfl⟩ | ⟨rfl, rfl⟩ | ⟨rfl, rfl⟩ | ⟨rfl, rfl⟩ | ⟨rfl, rfl⟩ | ⟨rfl, rfl⟩ | ⟨rfl, rfl⟩ | ⟨rfl, rfl⟩ | ⟨rfl, rfl⟩ | ⟨rfl, rfl⟩ | ⟨rfl, rfl⟩ | ⟨rfl, rfl⟩ | ⟨rfl, rfl⟩ | ⟨rfl, rfl⟩ | ⟨rfl, rfl⟩ | ⟨rfl, rfl⟩ | ⟨rfl, rfl⟩ | ⟨rfl, rfl⟩ | ⟨rfl, rfl⟩ | ⟨rfl, rfl⟩ | ⟨rfl, rfl⟩ | ⟨rfl, rfl⟩ | ⟨rfl, rfl⟩ | ⟨rfl, rfl⟩ | ⟨rfl, rfl⟩ | ⟨rfl, rfl⟩ | ⟨rfl, rfl⟩ | ⟨rfl, rfl⟩ | ⟨rfl, rfl⟩ | ⟨rfl, rfl⟩ | ⟨rfl, rfl⟩ | ⟨rfl, rfl⟩ | ⟨rfl, rfl⟩ | ⟨rfl, rfl⟩ | ⟨rfl, rfl⟩ | ⟨rfl, rfl⟩ | ⟨rfl, rfl⟩ | ⟨rfl, rfl⟩ | ⟨rfl, rfl⟩ | ⟨rfl, rfl⟩ | ⟨rfl, rfl⟩ | ⟨rfl, rfl⟩ | ⟨rfl, rfl⟩ | ⟨rfl, rfl⟩
  · exact ok7
  · exact ok10
  · exact ok14
  · exact ok15
  · exact ok16
  · exact ok17
  · exact ok18
  · exact ok19
  · exact ok20
  · exact ok21
  · exact ok22
  · exact ok23
  · exact ok30
  · exact ok31
  · exact ok32
  · exact ok33
  · exact ok34
  · exact ok35
  · exact ok36
  · cases hs
  · exact ok39
  · exact ok40
  · exact ok41
  · exact ok42
  · exact ok43
  · exact ok44
  · exact ok45
  · exact ok46
  · exact ok47
  · exact ok54
  · exact ok55
  · exact ok56
  · exact ok58
  · exact ok59
  · exact ok60
  · exact ok61
  · exact ok62
  · exact ok63
  · exact ok67
  · exact ok69
  · cases hs
  · exact ok72
  · exact ok73
  · exact ok74
  · exact ok75
  · exact ok76
  · exact ok77
  · exact ok78
  · exact ok79
  · exact ok80
  · exact ok82
  · exact ok83
  · exact ok86
  · exact ok96
  · exact ok97
  · exact ok98
  · exact ok99
  · exact ok100
  · exact ok101
  · exact ok102
  · exact ok103
  · exact ok104
  · exact ok107
  · exact ok108
  · exact ok109
  · exact ok125
  · exact ok126
  · exact ok127
  · exact ok128
  · exact ok129
  · exact ok130
  · exact ok131
  · exact ok132
  · exact ok133
  · exact ok134
  · exact ok135
  · exact ok137
  · exact ok138
  · exact ok139
  · exact ok156
  · exact ok157
  · exact ok158
  · exact ok171
  · exact ok172
  · exact ok173
  · exact ok176
  · exact ok177
  · exact ok178
  · exact ok179
  · exact ok180
  · exact ok181
  · exact ok182
  · exact ok183
  · exact ok185
  · exact ok187
  · exact ok191
  · exact ok193
  · exact ok194
  · exact ok198
  · exact ok199
  · exact ok200
  · exact ok202
  · exact ok204
  · exact ok205
theorem hST : ∀ f F s, TT f = some F → F.spec = some s → ThrOk Tryz.prog (GT m) f s := by
  intro f F s h hs
  have hm := lookup_mem h
  simp only [tabL, List.mem_cons, List.not_mem_nil, or_false, Prod.mk.injEq] at hm
  rcases hm with ⟨rfl, rfl⟩ | ⟨rfl, rfl⟩ | ⟨rfl, rfl⟩ | ⟨rfl, rfl⟩ | ⟨rfl, rfl⟩ | ⟨rfl, rfl⟩ | ⟨rfl, rfl⟩ | ⟨rfl, rfl⟩ | ⟨rfl, rfl⟩ | ⟨rfl, rfl⟩ | ⟨rfl, rfl⟩ | ⟨rfl, rfl⟩ | ⟨rfl, rfl⟩ | ⟨rfl, rfl⟩ | ⟨rfl, rfl⟩ | ⟨rfl, rfl⟩ | ⟨rfl, rfl⟩ | ⟨rfl, rfl⟩ | ⟨rfl, rfl⟩ | ⟨rfl, rfl⟩ | ⟨rfl, rfl⟩ | ⟨rfl, rfl⟩ | ⟨rfl, rfl⟩ | ⟨rfl, rfl⟩ | ⟨rfl, rfl⟩ | ⟨rfl, rfl⟩ | ⟨rfl, rfl⟩ | ⟨rfl, rfl⟩ | ⟨rfl, rfl⟩ | ⟨rfl, rfl⟩ | ⟨rfl, rfl⟩ | ⟨rfl, rfl⟩ | ⟨rfl, rfl⟩ | ⟨rfl, rfl⟩ | ⟨rfl, rfl⟩ | ⟨rfl, rfl⟩ | ⟨rfl, rfl⟩ | ⟨rfl, rfl⟩ | ⟨rfl, rfl⟩ | ⟨rfl, rfl⟩ | ⟨rfl, rfl⟩ | ⟨rfl, rfl⟩ | ⟨rfl, rfl⟩ | ⟨rfl, rfl⟩ | ⟨rfl, rfl⟩ | ⟨rfl, rfl⟩ | ⟨rfl, rfl⟩ | ⟨rfl, rfl⟩ | ⟨rfl, rfl⟩ | ⟨rfl, rfl⟩ | ⟨rfl, rfl⟩ | ⟨rfl, rfl⟩ | ⟨rfl, rfl⟩ | ⟨rfl, rfl⟩ | ⟨rfl, rfl⟩ | ⟨rfl, rfl⟩ | ⟨rfl, rfl⟩ | ⟨rfl, rfl⟩ | ⟨rfl, rfl⟩ | ⟨rfl, rfl⟩ | ⟨rfl, rfl⟩ | ⟨rfl, rfl⟩ | ⟨rfl, rfl⟩ | ⟨rfl, rfl⟩ | ⟨rfl, rfl⟩ | ⟨rfl, rfl⟩ | ⟨rfl, rfl⟩ | ⟨rfl, rfl⟩ | ⟨rfl, rfl⟩ | ⟨rfl, rfl⟩ | ⟨rfl, rfl⟩ | ⟨rfl, rfl⟩ | ⟨rfl, rfl⟩ | ⟨rfl, rfl⟩ | ⟨rfl, rfl⟩ | ⟨rfl, rfl⟩ | ⟨rfl, rfl⟩ | ⟨rfl, rfl⟩ | ⟨rfl, rfl⟩ | ⟨rfl, rfl⟩ | ⟨rfl, rfl⟩ | ⟨rfl, rfl⟩ | ⟨rfl, rfl⟩ | ⟨rfl, rfl⟩ | ⟨rfl, rfl⟩ | ⟨rfl, rfl⟩ | ⟨rfl, rfl⟩ | ⟨rfl, rfl⟩ | ⟨rfl, rfl⟩ | ⟨rfl, rfl⟩ | ⟨rfl, rfl⟩ | ⟨rfl, rfl⟩ | ⟨rfl, rfl⟩ | ⟨rfl, rfl⟩ | ⟨rfl, rfl⟩ | ⟨rfl, rfl⟩ | ⟨rfl, rfl⟩ | ⟨rfl, rfl⟩ | ⟨rfl, rfl⟩ | ⟨rfl, rfl⟩ | ⟨rfl, rfl⟩ | ⟨rfl, rfl⟩ | ⟨rfl, rfl⟩ | ⟨rfl, rfl⟩
  · cases hs
  · cases hs
  · cases hs
  · cases hs
  · cases hs
  · cases hs
  · cases hs
  · cases hs
  · cases hs
  · cases hs
  · cases hs
  · cases hs
  · cases hs
  · cases hs
  · cases hs
  · cases hs
  · cases hs
  · cases hs
  · cases hs
  · cases hs; exact str_ok
  · cases hs
  · cases hs
  · cases hs
  · cases hs
  · cases hs
  · cases hs
  · cases hs
  · cases hs
  · cases hs
  · cases hs
  · cases hs
  · cases hs
  · cases hs
  · cases hs
  · cases hs
  · cases hs
  · cases hs
  · cases hs
  · cases hs
  · cases hs
  · cases hs; exact cc_ok
  · cases hs
  · cases hs
  · cases hs
  · cases hs
  · cases hs
  · cases hs
  · cases hs
  · cases hs
  · cases hs
  · cases hs
  · cases hs
  · cases hs
  · cases hs
  · cases hs
  · cases hs
  · cases hs
  · cases hs
  · cases hs
  · cases hs
  · cases hs
  · cases hs
  · cases hs
  · cases hs
  · cases hs
  · cases hs
  · cases hs
  · cases hs
  · cases hs
  · cases hs
  · cases hs
  · cases hs
  · cases hs
  · cases hs
  · cases hs
  · cases hs
  · cases hs
  · cases hs
  · cases hs
  · cases hs
  · cases hs
  · cases hs
  · cases hs
  · cases hs
  · cases hs
  · cases hs
  · cases hs
  · cases hs
  · cases hs
  · cases hs
  · cases hs
  · cases hs
  · cases hs
  · cases hs
  · cases hs
  · cases hs
  · cases hs
  · cases hs
  · cases hs
  · cases hs
  · cases hs
  · cases hs
  · cases hs
  · cases hs
theorem hPT : ∀ f s, PT f = some s → PrimOk Tryz.prog (GT m) f s := by
  intro f s h
  have hm := lookup_mem h
  simp only [prL, List.mem_cons, List.not_mem_nil, or_false, Prod.mk.injEq] at hm
  rcases hm with ⟨rfl, rfl⟩ | ⟨rfl, rfl⟩ | ⟨rfl, rfl⟩ | ⟨rfl, rfl⟩ | ⟨rfl, rfl⟩ | ⟨rfl, rfl⟩ | ⟨rfl, rfl⟩ | ⟨rfl, rfl⟩ | ⟨rfl, rfl⟩ | ⟨rfl, rfl⟩ | ⟨rfl, rfl⟩ | ⟨rfl, rfl⟩ | ⟨rfl, rfl⟩ | ⟨rfl, rfl⟩
  · exact itoa_ok hPow
  · exact cut_ok (hMax m)
  · exact cp_ok
  · exact atoi_ok hEs hEr
  · exact split_ok (hMax m)
  · exact cmp_ok
  · exact splitN_ok (hMax m)
  · exact hp_ok
  · exact name_ok hKw
  · exact ib_ok
  · exact tl_ok
  · exact pi_ok hEs hEr
  · exact rep_ok
  · exact fmt_ok hPow
theorem hSt : ∀ f F, TT f = some F → F.spec = none → statQ F.body = true := by
  intro f F h _
  have hm := lookup_mem h
  have hall : (tabL.all fun p => statQ p.2.body) = true := by kernel_rfl
  exact List.all_eq_true.1 hall _ hm
end Go.Proofs.YticpkkjnajmpoaaGreatDoor.KM
