/- The table of functions, and that each form is the program's function. Printed by km_table.py. -/
import Derived.Test.YtikkmcchhddfoaaGreatDoorNt
set_option linter.all false
namespace Go.Proofs.YtikkmcchhddfoaaGreatDoor.KM
open Go
def GT (m : Int) : List (Nat × List V) := [(0, gOps), (1, [.int .i64 m]), (2, [.ifc]), (3, [.ifc]), (4, gKw), (5, gPow)]
variable {m : Int}
theorem hPow : (5, gPow) ∈ GT m := by simp [GT]
theorem hEs : (2, [V.ifc]) ∈ GT m := by simp [GT]
theorem hEr : (3, [V.ifc]) ∈ GT m := by simp [GT]
theorem hKw : (4, gKw) ∈ GT m := by simp [GT]
theorem hMax (m : Int) : (1, [V.int .i64 m]) ∈ GT m := by simp [GT]
def tabL : List (Nat × AF) := [(7, af7), (8, af8), (10, af10), (13, af13), (15, af15), (19, af19), (24, af24), (26, af26), (28, af28), (30, af30), (31, af31), (32, af32), (33, af33), (34, af34), (35, af35), (37, af37), (39, af39), (40, af40), (45, af45), (48, af48), (49, af49), (50, af50), (51, af51), (52, af52), (58, af58), (59, af59), (64, af64), (65, af65), (66, af66), (68, af68), (70, af70), (71, af71), (72, af72), (73, af73), (74, af74), (75, af75), (76, af76), (77, af77), (82, af82), (83, af83), (86, af86), (87, af87), (89, af89), (93, af93), (95, af95), (96, af96), (97, af97), (98, af98), (99, af99), (100, af100), (101, af101), (106, af106), (107, af107), (108, af108), (109, af109), (116, af116), (117, af117), (119, af119), (122, af122), (123, af123), (124, af124), (125, af125), (126, af126), (127, af127), (128, af128), (135, af135), (136, af136), (138, af138), (145, af145), (146, af146), (147, af147), (148, af148), (149, af149), (150, af150), (151, af151), (152, af152), (153, af153), (154, af154), (158, af158), (159, af159), (164, af164), (171, af171), (172, af172), (173, af173), (174, af174), (175, af175), (182, af182), (183, af183), (190, af190), (192, af192), (193, af193), (199, af199), (200, af200), (201, af201), (202, af202), (203, af203), (212, af212), (219, af219), (220, af220), (221, af221), (222, af222), (232, af232), (233, af233), (241, af241), (242, af242), (252, af252), (256, af256), (257, af257), (258, af258), (259, af259), (260, af260), (261, af261), (262, af262)]
def prL : List (Nat × (List V → Option V)) := [(78, itoaS), (79, cutS), (80, cpS), (81, atoiS), (92, repS), (94, hpS), (102, fmtS), (118, ibS), (134, splitNS), (191, tlS), (211, cmpS), (223, nameS), (231, piS)]
def TT (f : Nat) : Option AF := tabL.lookup f
def PT (f : Nat) : Option (List V → Option V) := prL.lookup f
theorem T7 : TT 7 = some af7 := by rfl
theorem T8 : TT 8 = some af8 := by rfl
theorem T10 : TT 10 = some af10 := by rfl
theorem T13 : TT 13 = some af13 := by rfl
theorem T15 : TT 15 = some af15 := by rfl
theorem T19 : TT 19 = some af19 := by rfl
theorem T24 : TT 24 = some af24 := by rfl
theorem T26 : TT 26 = some af26 := by rfl
theorem T28 : TT 28 = some af28 := by rfl
theorem T30 : TT 30 = some af30 := by rfl
theorem T31 : TT 31 = some af31 := by rfl
theorem T32 : TT 32 = some af32 := by rfl
theorem T33 : TT 33 = some af33 := by rfl
theorem T34 : TT 34 = some af34 := by rfl
theorem T35 : TT 35 = some af35 := by rfl
theorem T37 : TT 37 = some af37 := by rfl
theorem T39 : TT 39 = some af39 := by rfl
theorem T40 : TT 40 = some af40 := by rfl
theorem T45 : TT 45 = some af45 := by rfl
theorem T48 : TT 48 = some af48 := by rfl
theorem T49 : TT 49 = some af49 := by rfl
theorem T50 : TT 50 = some af50 := by rfl
theorem T51 : TT 51 = some af51 := by rfl
theorem T52 : TT 52 = some af52 := by rfl
theorem T58 : TT 58 = some af58 := by rfl
theorem T59 : TT 59 = some af59 := by rfl
theorem T64 : TT 64 = some af64 := by rfl
theorem T65 : TT 65 = some af65 := by rfl
theorem T66 : TT 66 = some af66 := by rfl
theorem T68 : TT 68 = some af68 := by rfl
theorem T70 : TT 70 = some af70 := by rfl
theorem T71 : TT 71 = some af71 := by rfl
theorem T72 : TT 72 = some af72 := by rfl
theorem T73 : TT 73 = some af73 := by rfl
theorem T74 : TT 74 = some af74 := by rfl
theorem T75 : TT 75 = some af75 := by rfl
theorem T76 : TT 76 = some af76 := by rfl
theorem T77 : TT 77 = some af77 := by rfl
theorem T82 : TT 82 = some af82 := by rfl
theorem T83 : TT 83 = some af83 := by rfl
theorem T86 : TT 86 = some af86 := by rfl
theorem T87 : TT 87 = some af87 := by rfl
theorem T89 : TT 89 = some af89 := by rfl
theorem T93 : TT 93 = some af93 := by rfl
theorem T95 : TT 95 = some af95 := by rfl
theorem T96 : TT 96 = some af96 := by rfl
theorem T97 : TT 97 = some af97 := by rfl
theorem T98 : TT 98 = some af98 := by rfl
theorem T99 : TT 99 = some af99 := by rfl
theorem T100 : TT 100 = some af100 := by rfl
theorem T101 : TT 101 = some af101 := by rfl
theorem T106 : TT 106 = some af106 := by rfl
theorem T107 : TT 107 = some af107 := by rfl
theorem T108 : TT 108 = some af108 := by rfl
theorem T109 : TT 109 = some af109 := by rfl
theorem T116 : TT 116 = some af116 := by rfl
theorem T117 : TT 117 = some af117 := by rfl
theorem T119 : TT 119 = some af119 := by rfl
theorem T122 : TT 122 = some af122 := by rfl
theorem T123 : TT 123 = some af123 := by rfl
theorem T124 : TT 124 = some af124 := by rfl
theorem T125 : TT 125 = some af125 := by rfl
theorem T126 : TT 126 = some af126 := by rfl
theorem T127 : TT 127 = some af127 := by rfl
theorem T128 : TT 128 = some af128 := by rfl
theorem T135 : TT 135 = some af135 := by rfl
theorem T136 : TT 136 = some af136 := by rfl
theorem T138 : TT 138 = some af138 := by rfl
theorem T145 : TT 145 = some af145 := by rfl
theorem T146 : TT 146 = some af146 := by rfl
theorem T147 : TT 147 = some af147 := by rfl
theorem T148 : TT 148 = some af148 := by rfl
theorem T149 : TT 149 = some af149 := by rfl
theorem T150 : TT 150 = some af150 := by rfl
theorem T151 : TT 151 = some af151 := by rfl
theorem T152 : TT 152 = some af152 := by rfl
theorem T153 : TT 153 = some af153 := by rfl
theorem T154 : TT 154 = some af154 := by rfl
theorem T158 : TT 158 = some af158 := by rfl
theorem T159 : TT 159 = some af159 := by rfl
theorem T164 : TT 164 = some af164 := by rfl
theorem T171 : TT 171 = some af171 := by rfl
theorem T172 : TT 172 = some af172 := by rfl
theorem T173 : TT 173 = some af173 := by rfl
theorem T174 : TT 174 = some af174 := by rfl
theorem T175 : TT 175 = some af175 := by rfl
theorem T182 : TT 182 = some af182 := by rfl
theorem T183 : TT 183 = some af183 := by rfl
theorem T190 : TT 190 = some af190 := by rfl
theorem T192 : TT 192 = some af192 := by rfl
theorem T193 : TT 193 = some af193 := by rfl
theorem T199 : TT 199 = some af199 := by rfl
theorem T200 : TT 200 = some af200 := by rfl
theorem T201 : TT 201 = some af201 := by rfl
theorem T202 : TT 202 = some af202 := by rfl
theorem T203 : TT 203 = some af203 := by rfl
theorem T212 : TT 212 = some af212 := by rfl
theorem T219 : TT 219 = some af219 := by rfl
theorem T220 : TT 220 = some af220 := by rfl
theorem T221 : TT 221 = some af221 := by rfl
theorem T222 : TT 222 = some af222 := by rfl
theorem T232 : TT 232 = some af232 := by rfl
theorem T233 : TT 233 = some af233 := by rfl
theorem T241 : TT 241 = some af241 := by rfl
theorem T242 : TT 242 = some af242 := by rfl
theorem T252 : TT 252 = some af252 := by rfl
theorem T256 : TT 256 = some af256 := by rfl
theorem T257 : TT 257 = some af257 := by rfl
theorem T258 : TT 258 = some af258 := by rfl
theorem T259 : TT 259 = some af259 := by rfl
theorem T260 : TT 260 = some af260 := by rfl
theorem T261 : TT 261 = some af261 := by rfl
theorem T262 : TT 262 = some af262 := by rfl
theorem P78 : PT 78 = some itoaS := by rfl
theorem P79 : PT 79 = some cutS := by rfl
theorem P80 : PT 80 = some cpS := by rfl
theorem P81 : PT 81 = some atoiS := by rfl
theorem P92 : PT 92 = some repS := by rfl
theorem P94 : PT 94 = some hpS := by rfl
theorem P102 : PT 102 = some fmtS := by rfl
theorem P118 : PT 118 = some ibS := by rfl
theorem P134 : PT 134 = some splitNS := by rfl
theorem P191 : PT 191 = some tlS := by rfl
theorem P211 : PT 211 = some cmpS := by rfl
theorem P223 : PT 223 = some nameS := by rfl
theorem P231 : PT 231 = some piS := by rfl
theorem ok7 : okF Tryz.prog (GT m) 7 af7 = true := by kernel_rfl
theorem ok8 : okF Tryz.prog (GT m) 8 af8 = true := by kernel_rfl
theorem ok10 : okF Tryz.prog (GT m) 10 af10 = true := by kernel_rfl
theorem ok13 : okF Tryz.prog (GT m) 13 af13 = true := by kernel_rfl
theorem ok15 : okF Tryz.prog (GT m) 15 af15 = true := by kernel_rfl
theorem ok19 : okF Tryz.prog (GT m) 19 af19 = true := by kernel_rfl
theorem ok24 : okF Tryz.prog (GT m) 24 af24 = true := by kernel_rfl
theorem ok26 : okF Tryz.prog (GT m) 26 af26 = true := by kernel_rfl
theorem ok28 : okF Tryz.prog (GT m) 28 af28 = true := by kernel_rfl
theorem ok30 : okF Tryz.prog (GT m) 30 af30 = true := by kernel_rfl
theorem ok31 : okF Tryz.prog (GT m) 31 af31 = true := by kernel_rfl
theorem ok32 : okF Tryz.prog (GT m) 32 af32 = true := by kernel_rfl
theorem ok33 : okF Tryz.prog (GT m) 33 af33 = true := by kernel_rfl
theorem ok34 : okF Tryz.prog (GT m) 34 af34 = true := by kernel_rfl
theorem ok35 : okF Tryz.prog (GT m) 35 af35 = true := by kernel_rfl
theorem ok37 : okF Tryz.prog (GT m) 37 af37 = true := by kernel_rfl
theorem ok39 : okF Tryz.prog (GT m) 39 af39 = true := by kernel_rfl
theorem ok40 : okF Tryz.prog (GT m) 40 af40 = true := by kernel_rfl
theorem ok45 : okF Tryz.prog (GT m) 45 af45 = true := by kernel_rfl
theorem ok48 : okF Tryz.prog (GT m) 48 af48 = true := by kernel_rfl
theorem ok50 : okF Tryz.prog (GT m) 50 af50 = true := by kernel_rfl
theorem ok51 : okF Tryz.prog (GT m) 51 af51 = true := by kernel_rfl
theorem ok52 : okF Tryz.prog (GT m) 52 af52 = true := by kernel_rfl
theorem ok58 : okF Tryz.prog (GT m) 58 af58 = true := by kernel_rfl
theorem ok59 : okF Tryz.prog (GT m) 59 af59 = true := by kernel_rfl
theorem ok64 : okF Tryz.prog (GT m) 64 af64 = true := by kernel_rfl
theorem ok65 : okF Tryz.prog (GT m) 65 af65 = true := by kernel_rfl
theorem ok66 : okF Tryz.prog (GT m) 66 af66 = true := by kernel_rfl
theorem ok68 : okF Tryz.prog (GT m) 68 af68 = true := by kernel_rfl
theorem ok70 : okF Tryz.prog (GT m) 70 af70 = true := by kernel_rfl
theorem ok71 : okF Tryz.prog (GT m) 71 af71 = true := by kernel_rfl
theorem ok72 : okF Tryz.prog (GT m) 72 af72 = true := by kernel_rfl
theorem ok73 : okF Tryz.prog (GT m) 73 af73 = true := by kernel_rfl
theorem ok74 : okF Tryz.prog (GT m) 74 af74 = true := by kernel_rfl
theorem ok75 : okF Tryz.prog (GT m) 75 af75 = true := by kernel_rfl
theorem ok76 : okF Tryz.prog (GT m) 76 af76 = true := by kernel_rfl
theorem ok77 : okF Tryz.prog (GT m) 77 af77 = true := by kernel_rfl
theorem ok82 : okF Tryz.prog (GT m) 82 af82 = true := by kernel_rfl
theorem ok83 : okF Tryz.prog (GT m) 83 af83 = true := by kernel_rfl
theorem ok86 : okF Tryz.prog (GT m) 86 af86 = true := by kernel_rfl
theorem ok87 : okF Tryz.prog (GT m) 87 af87 = true := by kernel_rfl
theorem ok93 : okF Tryz.prog (GT m) 93 af93 = true := by kernel_rfl
theorem ok95 : okF Tryz.prog (GT m) 95 af95 = true := by kernel_rfl
theorem ok96 : okF Tryz.prog (GT m) 96 af96 = true := by kernel_rfl
theorem ok97 : okF Tryz.prog (GT m) 97 af97 = true := by kernel_rfl
theorem ok98 : okF Tryz.prog (GT m) 98 af98 = true := by kernel_rfl
theorem ok99 : okF Tryz.prog (GT m) 99 af99 = true := by kernel_rfl
theorem ok100 : okF Tryz.prog (GT m) 100 af100 = true := by kernel_rfl
theorem ok101 : okF Tryz.prog (GT m) 101 af101 = true := by kernel_rfl
theorem ok106 : okF Tryz.prog (GT m) 106 af106 = true := by kernel_rfl
theorem ok107 : okF Tryz.prog (GT m) 107 af107 = true := by kernel_rfl
theorem ok108 : okF Tryz.prog (GT m) 108 af108 = true := by kernel_rfl
theorem ok109 : okF Tryz.prog (GT m) 109 af109 = true := by kernel_rfl
theorem ok116 : okF Tryz.prog (GT m) 116 af116 = true := by kernel_rfl
theorem ok117 : okF Tryz.prog (GT m) 117 af117 = true := by kernel_rfl
theorem ok119 : okF Tryz.prog (GT m) 119 af119 = true := by kernel_rfl
theorem ok122 : okF Tryz.prog (GT m) 122 af122 = true := by kernel_rfl
theorem ok123 : okF Tryz.prog (GT m) 123 af123 = true := by kernel_rfl
theorem ok124 : okF Tryz.prog (GT m) 124 af124 = true := by kernel_rfl
theorem ok125 : okF Tryz.prog (GT m) 125 af125 = true := by kernel_rfl
theorem ok126 : okF Tryz.prog (GT m) 126 af126 = true := by kernel_rfl
theorem ok127 : okF Tryz.prog (GT m) 127 af127 = true := by kernel_rfl
theorem ok128 : okF Tryz.prog (GT m) 128 af128 = true := by kernel_rfl
theorem ok135 : okF Tryz.prog (GT m) 135 af135 = true := by kernel_rfl
theorem ok136 : okF Tryz.prog (GT m) 136 af136 = true := by kernel_rfl
theorem ok138 : okF Tryz.prog (GT m) 138 af138 = true := by kernel_rfl
theorem ok145 : okF Tryz.prog (GT m) 145 af145 = true := by kernel_rfl
theorem ok146 : okF Tryz.prog (GT m) 146 af146 = true := by kernel_rfl
theorem ok147 : okF Tryz.prog (GT m) 147 af147 = true := by kernel_rfl
theorem ok148 : okF Tryz.prog (GT m) 148 af148 = true := by kernel_rfl
theorem ok149 : okF Tryz.prog (GT m) 149 af149 = true := by kernel_rfl
theorem ok150 : okF Tryz.prog (GT m) 150 af150 = true := by kernel_rfl
theorem ok151 : okF Tryz.prog (GT m) 151 af151 = true := by kernel_rfl
theorem ok152 : okF Tryz.prog (GT m) 152 af152 = true := by kernel_rfl
theorem ok153 : okF Tryz.prog (GT m) 153 af153 = true := by kernel_rfl
theorem ok154 : okF Tryz.prog (GT m) 154 af154 = true := by kernel_rfl
theorem ok158 : okF Tryz.prog (GT m) 158 af158 = true := by kernel_rfl
theorem ok159 : okF Tryz.prog (GT m) 159 af159 = true := by kernel_rfl
theorem ok164 : okF Tryz.prog (GT m) 164 af164 = true := by kernel_rfl
theorem ok171 : okF Tryz.prog (GT m) 171 af171 = true := by kernel_rfl
theorem ok172 : okF Tryz.prog (GT m) 172 af172 = true := by kernel_rfl
theorem ok173 : okF Tryz.prog (GT m) 173 af173 = true := by kernel_rfl
theorem ok174 : okF Tryz.prog (GT m) 174 af174 = true := by kernel_rfl
theorem ok175 : okF Tryz.prog (GT m) 175 af175 = true := by kernel_rfl
theorem ok182 : okF Tryz.prog (GT m) 182 af182 = true := by kernel_rfl
theorem ok183 : okF Tryz.prog (GT m) 183 af183 = true := by kernel_rfl
theorem ok190 : okF Tryz.prog (GT m) 190 af190 = true := by kernel_rfl
theorem ok192 : okF Tryz.prog (GT m) 192 af192 = true := by kernel_rfl
theorem ok193 : okF Tryz.prog (GT m) 193 af193 = true := by kernel_rfl
theorem ok199 : okF Tryz.prog (GT m) 199 af199 = true := by kernel_rfl
theorem ok200 : okF Tryz.prog (GT m) 200 af200 = true := by kernel_rfl
theorem ok201 : okF Tryz.prog (GT m) 201 af201 = true := by kernel_rfl
theorem ok202 : okF Tryz.prog (GT m) 202 af202 = true := by kernel_rfl
theorem ok203 : okF Tryz.prog (GT m) 203 af203 = true := by kernel_rfl
theorem ok212 : okF Tryz.prog (GT m) 212 af212 = true := by kernel_rfl
theorem ok219 : okF Tryz.prog (GT m) 219 af219 = true := by kernel_rfl
theorem ok220 : okF Tryz.prog (GT m) 220 af220 = true := by kernel_rfl
theorem ok221 : okF Tryz.prog (GT m) 221 af221 = true := by kernel_rfl
theorem ok222 : okF Tryz.prog (GT m) 222 af222 = true := by kernel_rfl
theorem ok232 : okF Tryz.prog (GT m) 232 af232 = true := by kernel_rfl
theorem ok233 : okF Tryz.prog (GT m) 233 af233 = true := by kernel_rfl
theorem ok241 : okF Tryz.prog (GT m) 241 af241 = true := by kernel_rfl
theorem ok242 : okF Tryz.prog (GT m) 242 af242 = true := by kernel_rfl
theorem ok252 : okF Tryz.prog (GT m) 252 af252 = true := by kernel_rfl
theorem ok256 : okF Tryz.prog (GT m) 256 af256 = true := by kernel_rfl
theorem ok257 : okF Tryz.prog (GT m) 257 af257 = true := by kernel_rfl
theorem ok258 : okF Tryz.prog (GT m) 258 af258 = true := by kernel_rfl
theorem ok259 : okF Tryz.prog (GT m) 259 af259 = true := by kernel_rfl
theorem ok260 : okF Tryz.prog (GT m) 260 af260 = true := by kernel_rfl
theorem ok261 : okF Tryz.prog (GT m) 261 af261 = true := by kernel_rfl
theorem ok262 : okF Tryz.prog (GT m) 262 af262 = true := by kernel_rfl
theorem lookup_mem {α : Type} : ∀ {l : List (Nat × α)} {f : Nat} {a : α}, l.lookup f = some a → (f, a) ∈ l
  | [], _, _, h => by cases h
  | (g, b) :: l, f, a, h => by
    rw [List.lookup_cons] at h
    split at h
    · rename_i he
      cases h
      rw [eq_of_beq he]
      exact List.mem_cons_self
    · exact List.mem_cons_of_mem _ (lookup_mem h)
theorem hTT : ∀ f F, TT f = some F → F.spec = none → okF Tryz.prog (GT m) f F = true := by
  intro f F h hs
  have hm := lookup_mem h
  simp only [tabL, List.mem_cons, List.not_mem_nil, or_false, Prod.mk.injEq] at hm
  rcases hm with ⟨rfl, rfl⟩ | ⟨rfl, rfl⟩ | ⟨rfl, rfl⟩ | ⟨rfl, rfl⟩ | ⟨rfl, rfl⟩ | ⟨rfl, rfl⟩ | ⟨rfl, rfl⟩ | ⟨rfl, rfl⟩ | ⟨rfl, rfl⟩ | ⟨rfl, rfl⟩ | ⟨rfl, rfl⟩ | ⟨rfl, rfl⟩ | ⟨rfl, rfl⟩ | ⟨rfl, rfl⟩ | ⟨rfl, rfl⟩ | ⟨rfl, rfl⟩ | ⟨rfl, rfl⟩ | ⟨rfl, rfl⟩ | ⟨rfl, rfl⟩ | ⟨rfl, rfl⟩ | ⟨rfl, rfl⟩ | ⟨rfl, rfl⟩ | ⟨rfl, rfl⟩ | ⟨rfl, rfl⟩ | ⟨rfl, rfl⟩ | ⟨rfl, rfl⟩ | ⟨rfl, rfl⟩ | ⟨rfl, rfl⟩ | ⟨rfl, rfl⟩ | ⟨rfl, rfl⟩ | ⟨rfl, rfl⟩ | ⟨rfl, rfl⟩ | ⟨rfl, rfl⟩ | ⟨rfl, rfl⟩ | ⟨rfl, rfl⟩ | ⟨rfl, rfl⟩ | ⟨rfl, rfl⟩ | ⟨rfl, rfl⟩ | ⟨rfl, rfl⟩ | ⟨rfl, rfl⟩ | ⟨rfl, rfl⟩ | ⟨rfl, rfl⟩ | ⟨rfl, rfl⟩ | ⟨rfl, rfl⟩ | ⟨rfl, rfl⟩ | ⟨rfl, rfl⟩ | ⟨rfl, rfl⟩ | ⟨rfl, rfl⟩ | ⟨rfl, rfl⟩ | ⟨rfl, rfl⟩ | ⟨rfl, rfl⟩ | ⟨rfl, rfl⟩ | ⟨rfl, rfl⟩ | ⟨rfl, rfl⟩ | ⟨rfl, rfl⟩ | ⟨rfl, rfl⟩ | ⟨rfl, rfl⟩ | ⟨rfl, rfl⟩ | ⟨rfl, rfl⟩ | ⟨rfl, rfl⟩ | ⟨rfl, rfl⟩ | ⟨rfl, rfl⟩ | ⟨rfl, rfl⟩ | ⟨rfl, rfl⟩ | ⟨rfl, rfl⟩ | ⟨rfl, rfl⟩ | ⟨rfl, rfl⟩ | ⟨rfl, rfl⟩ | ⟨rfl, rfl⟩ | ⟨rfl, rfl⟩ | ⟨rfl, rfl⟩ | ⟨rfl, rfl⟩ | ⟨rfl, rfl⟩ | ⟨rfl, rfl⟩ | ⟨rfl, rfl⟩ | ⟨rfl, rfl⟩ | ⟨rfl, rfl⟩ | ⟨rfl, rfl⟩ | ⟨rfl, rfl⟩ | ⟨rfl, rfl⟩ | ⟨rfl, rfl⟩ | ⟨rfl, rfl⟩ | ⟨rfl, rfl⟩ | ⟨rfl, rfl⟩ | ⟨rfl, rfl⟩ | ⟨rfl, rfl⟩ | ⟨rfl, rfl⟩ | ⟨rfl, rfl⟩ | ⟨rfl, rfl⟩ | ⟨rfl, rfl⟩ | ⟨rfl, rfl⟩ | ⟨rfl, rfl⟩ | ⟨rfl, rfl⟩ | ⟨rfl, rfl⟩ | ⟨rfl, rfl⟩ | ⟨rfl, rfl⟩ | ⟨rfl, rfl⟩ | ⟨rfl, rfl⟩ | ⟨rfl, rfl⟩ | ⟨rfl, rfl⟩ | ⟨rfl, rfl⟩ | ⟨rfl, rfl⟩ | ⟨rfl, rfl⟩ | ⟨rfl, rfl⟩ | ⟨rfl, rfl⟩ | ⟨rfl, rfl⟩ | ⟨rfl, rfl⟩ | ⟨rfl, rfl⟩ | ⟨rfl, rfl⟩ | ⟨rfl, rfl⟩ | ⟨rfl, rfl⟩ | ⟨rfl, rfl⟩ | ⟨rfl, rfl⟩
  · exact ok7
  · exact ok8
  · exact ok10
  · exact ok13
  · exact ok15
  · exact ok19
  · exact ok24
  · exact ok26
  · exact ok28
  · exact ok30
  · exact ok31
  · exact ok32
  · exact ok33
  · exact ok34
  · exact ok35
  · exact ok37
  · exact ok39
  · exact ok40
  · exact ok45
  · exact ok48
  · cases hs
  · exact ok50
  · exact ok51
  · exact ok52
  · exact ok58
  · exact ok59
  · exact ok64
  · exact ok65
  · exact ok66
  · exact ok68
  · exact ok70
  · exact ok71
  · exact ok72
  · exact ok73
  · exact ok74
  · exact ok75
  · exact ok76
  · exact ok77
  · exact ok82
  · exact ok83
  · exact ok86
  · exact ok87
  · cases hs
  · exact ok93
  · exact ok95
  · exact ok96
  · exact ok97
  · exact ok98
  · exact ok99
  · exact ok100
  · exact ok101
  · exact ok106
  · exact ok107
  · exact ok108
  · exact ok109
  · exact ok116
  · exact ok117
  · exact ok119
  · exact ok122
  · exact ok123
  · exact ok124
  · exact ok125
  · exact ok126
  · exact ok127
  · exact ok128
  · exact ok135
  · exact ok136
  · exact ok138
  · exact ok145
  · exact ok146
  · exact ok147
  · exact ok148
  · exact ok149
  · exact ok150
  · exact ok151
  · exact ok152
  · exact ok153
  · exact ok154
  · exact ok158
  · exact ok159
  · exact ok164
  · exact ok171
  · exact ok172
  · exact ok173
  · exact ok174
  · exact ok175
  · exact ok182
  · exact ok183
  · exact ok190
  · exact ok192
  · exact ok193
  · exact ok199
  · exact ok200
  · exact ok201
  · exact ok202
  · exact ok203
  · exact ok212
  · exact ok219
  · exact ok220
  · exact ok221
  · exact ok222
  · exact ok232
  · exact ok233
  · exact ok241
  · exact ok242
  · exact ok252
  · exact ok256
  · exact ok257
  · exact ok258
  · exact ok259
  · exact ok260
  · exact ok261
  · exact ok262
theorem hST : ∀ f F s, TT f = some F → F.spec = some s → ThrOk Tryz.prog (GT m) f s := by
  intro f F s h hs
  have hm := lookup_mem h
  simp only [tabL, List.mem_cons, List.not_mem_nil, or_false, Prod.mk.injEq] at hm
  rcases hm with ⟨rfl, rfl⟩ | ⟨rfl, rfl⟩ | ⟨rfl, rfl⟩ | ⟨rfl, rfl⟩ | ⟨rfl, rfl⟩ | ⟨rfl, rfl⟩ | ⟨rfl, rfl⟩ | ⟨rfl, rfl⟩ | ⟨rfl, rfl⟩ | ⟨rfl, rfl⟩ | ⟨rfl, rfl⟩ | ⟨rfl, rfl⟩ | ⟨rfl, rfl⟩ | ⟨rfl, rfl⟩ | ⟨rfl, rfl⟩ | ⟨rfl, rfl⟩ | ⟨rfl, rfl⟩ | ⟨rfl, rfl⟩ | ⟨rfl, rfl⟩ | ⟨rfl, rfl⟩ | ⟨rfl, rfl⟩ | ⟨rfl, rfl⟩ | ⟨rfl, rfl⟩ | ⟨rfl, rfl⟩ | ⟨rfl, rfl⟩ | ⟨rfl, rfl⟩ | ⟨rfl, rfl⟩ | ⟨rfl, rfl⟩ | ⟨rfl, rfl⟩ | ⟨rfl, rfl⟩ | ⟨rfl, rfl⟩ | ⟨rfl, rfl⟩ | ⟨rfl, rfl⟩ | ⟨rfl, rfl⟩ | ⟨rfl, rfl⟩ | ⟨rfl, rfl⟩ | ⟨rfl, rfl⟩ | ⟨rfl, rfl⟩ | ⟨rfl, rfl⟩ | ⟨rfl, rfl⟩ | ⟨rfl, rfl⟩ | ⟨rfl, rfl⟩ | ⟨rfl, rfl⟩ | ⟨rfl, rfl⟩ | ⟨rfl, rfl⟩ | ⟨rfl, rfl⟩ | ⟨rfl, rfl⟩ | ⟨rfl, rfl⟩ | ⟨rfl, rfl⟩ | ⟨rfl, rfl⟩ | ⟨rfl, rfl⟩ | ⟨rfl, rfl⟩ | ⟨rfl, rfl⟩ | ⟨rfl, rfl⟩ | ⟨rfl, rfl⟩ | ⟨rfl, rfl⟩ | ⟨rfl, rfl⟩ | ⟨rfl, rfl⟩ | ⟨rfl, rfl⟩ | ⟨rfl, rfl⟩ | ⟨rfl, rfl⟩ | ⟨rfl, rfl⟩ | ⟨rfl, rfl⟩ | ⟨rfl, rfl⟩ | ⟨rfl, rfl⟩ | ⟨rfl, rfl⟩ | ⟨rfl, rfl⟩ | ⟨rfl, rfl⟩ | ⟨rfl, rfl⟩ | ⟨rfl, rfl⟩ | ⟨rfl, rfl⟩ | ⟨rfl, rfl⟩ | ⟨rfl, rfl⟩ | ⟨rfl, rfl⟩ | ⟨rfl, rfl⟩ | ⟨rfl, rfl⟩ | ⟨rfl, rfl⟩ | ⟨rfl, rfl⟩ | ⟨rfl, rfl⟩ | ⟨rfl, rfl⟩ | ⟨rfl, rfl⟩ | ⟨rfl, rfl⟩ | ⟨rfl, rfl⟩ | ⟨rfl, rfl⟩ | ⟨rfl, rfl⟩ | ⟨rfl, rfl⟩ | ⟨rfl, rfl⟩ | ⟨rfl, rfl⟩ | ⟨rfl, rfl⟩ | ⟨rfl, rfl⟩ | ⟨rfl, rfl⟩ | ⟨rfl, rfl⟩ | ⟨rfl, rfl⟩ | ⟨rfl, rfl⟩ | ⟨rfl, rfl⟩ | ⟨rfl, rfl⟩ | ⟨rfl, rfl⟩ | ⟨rfl, rfl⟩ | ⟨rfl, rfl⟩ | ⟨rfl, rfl⟩ | ⟨rfl, rfl⟩ | ⟨rfl, rfl⟩ | ⟨rfl, rfl⟩ | ⟨rfl, rfl⟩ | ⟨rfl, rfl⟩ | ⟨rfl, rfl⟩ | ⟨rfl, rfl⟩ | ⟨rfl, rfl⟩ | ⟨rfl, rfl⟩ | ⟨rfl, rfl⟩ | ⟨rfl, rfl⟩ | ⟨rfl, rfl⟩ | ⟨rfl, rfl⟩
  · cases hs
  · cases hs
  · cases hs
  · cases hs
  · cases hs
  · cases hs
  · cases hs
  · cases hs
  · cases hs
  · cases hs
  · cases hs
  · cases hs
  · cases hs
  · cases hs
  · cases hs
  · cases hs
  · cases hs
  · cases hs
  · cases hs
  · cases hs
  · cases hs; exact str_ok
  · cases hs
  · cases hs
  · cases hs
  · cases hs
  · cases hs
  · cases hs
  · cases hs
  · cases hs
  · cases hs
  · cases hs
  · cases hs
  · cases hs
  · cases hs
  · cases hs
  · cases hs
  · cases hs
  · cases hs
  · cases hs
  · cases hs
  · cases hs
  · cases hs
  · cases hs; exact cc_ok
  · cases hs
  · cases hs
  · cases hs
  · cases hs
  · cases hs
  · cases hs
  · cases hs
  · cases hs
  · cases hs
  · cases hs
  · cases hs
  · cases hs
  · cases hs
  · cases hs
  · cases hs
  · cases hs
  · cases hs
  · cases hs
  · cases hs
  · cases hs
  · cases hs
  · cases hs
  · cases hs
  · cases hs
  · cases hs
  · cases hs
  · cases hs
  · cases hs
  · cases hs
  · cases hs
  · cases hs
  · cases hs
  · cases hs
  · cases hs
  · cases hs
  · cases hs
  · cases hs
  · cases hs
  · cases hs
  · cases hs
  · cases hs
  · cases hs
  · cases hs
  · cases hs
  · cases hs
  · cases hs
  · cases hs
  · cases hs
  · cases hs
  · cases hs
  · cases hs
  · cases hs
  · cases hs
  · cases hs
  · cases hs
  · cases hs
  · cases hs
  · cases hs
  · cases hs
  · cases hs
  · cases hs
  · cases hs
  · cases hs
  · cases hs
  · cases hs
  · cases hs
  · cases hs
  · cases hs
  · cases hs
  · cases hs
theorem hPT : ∀ f s, PT f = some s → PrimOk Tryz.prog (GT m) f s := by
  intro f s h
  have hm := lookup_mem h
  simp only [prL, List.mem_cons, List.not_mem_nil, or_false, Prod.mk.injEq] at hm
  rcases hm with ⟨rfl, rfl⟩ | ⟨rfl, rfl⟩ | ⟨rfl, rfl⟩ | ⟨rfl, rfl⟩ | ⟨rfl, rfl⟩ | ⟨rfl, rfl⟩ | ⟨rfl, rfl⟩ | ⟨rfl, rfl⟩ | ⟨rfl, rfl⟩ | ⟨rfl, rfl⟩ | ⟨rfl, rfl⟩ | ⟨rfl, rfl⟩ | ⟨rfl, rfl⟩
  · exact itoa_ok hPow
  · exact cut_ok (hMax m)
  · exact cp_ok
  · exact atoi_ok hEs hEr
  · exact rep_ok
  · exact hp_ok
  · exact fmt_ok hPow
  · exact ib_ok
  · exact splitN_ok (hMax m)
  · exact tl_ok
  · exact cmp_ok
  · exact name_ok hKw
  · exact pi_ok hEs hEr
theorem hSt : ∀ f F, TT f = some F → F.spec = none → statQ F.body = true := by
  intro f F h _
  have hm := lookup_mem h
  have hall : (tabL.all fun p => statQ p.2.body) = true := by kernel_rfl
  exact List.all_eq_true.1 hall _ hm
end Go.Proofs.YtikkmcchhddfoaaGreatDoor.KM
