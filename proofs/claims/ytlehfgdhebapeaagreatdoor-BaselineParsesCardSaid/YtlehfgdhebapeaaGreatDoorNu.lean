/- The table of functions, and that each form is the program's function. Printed by km_table.py. -/
import Derived.Test.YtlehfgdhebapeaaGreatDoorNt
set_option linter.all false
namespace Go.Proofs.YtlehfgdhebapeaaGreatDoor.KM
open Go
def GT (m : Int) : List (Nat × List V) := [(0, gOps), (1, [.int .i64 m]), (2, [.ifc]), (3, [.ifc]), (4, gKw), (5, gPow)]
variable {m : Int}
theorem hPow : (5, gPow) ∈ GT m := by simp [GT]
theorem hEs : (2, [V.ifc]) ∈ GT m := by simp [GT]
theorem hEr : (3, [V.ifc]) ∈ GT m := by simp [GT]
theorem hKw : (4, gKw) ∈ GT m := by simp [GT]
theorem hMax (m : Int) : (1, [V.int .i64 m]) ∈ GT m := by simp [GT]
def tabL : List (Nat × AF) := [(7, af7), (10, af10), (16, af16), (21, af21), (23, af23), (25, af25), (27, af27), (28, af28), (29, af29), (34, af34), (37, af37), (38, af38), (39, af39), (40, af40), (41, af41), (47, af47), (48, af48), (53, af53), (54, af54), (55, af55), (60, af60), (61, af61), (62, af62), (64, af64), (65, af65), (66, af66), (67, af67), (69, af69), (74, af74), (76, af76), (77, af77), (78, af78), (79, af79), (80, af80), (81, af81), (82, af82), (87, af87), (88, af88), (89, af89), (90, af90), (97, af97), (98, af98), (105, af105), (106, af106), (108, af108), (109, af109), (117, af117), (118, af118), (119, af119), (120, af120), (121, af121), (122, af122), (123, af123), (124, af124), (125, af125), (126, af126), (130, af130), (131, af131), (136, af136), (149, af149), (150, af150), (154, af154), (155, af155), (161, af161), (162, af162), (168, af168), (169, af169), (170, af170), (171, af171), (172, af172), (186, af186), (187, af187), (188, af188), (189, af189), (200, af200), (201, af201), (209, af209), (210, af210), (219, af219), (224, af224), (225, af225), (226, af226), (227, af227), (228, af228), (229, af229), (230, af230)]
def prL : List (Nat × (List V → Option V)) := [(57, cutS), (58, cpS), (59, atoiS), (63, splitS), (70, itoaS), (73, repS), (75, hpS), (83, fmtS), (99, ibS), (104, splitNS), (159, kwS), (160, tlS), (190, nameS), (194, cmpS), (199, piS)]
def TT (f : Nat) : Option AF := tabL.lookup f
def PT (f : Nat) : Option (List V → Option V) := prL.lookup f
theorem T7 : TT 7 = some af7 := by rfl
theorem T10 : TT 10 = some af10 := by rfl
theorem T16 : TT 16 = some af16 := by rfl
theorem T21 : TT 21 = some af21 := by rfl
theorem T23 : TT 23 = some af23 := by rfl
theorem T25 : TT 25 = some af25 := by rfl
theorem T27 : TT 27 = some af27 := by rfl
theorem T28 : TT 28 = some af28 := by rfl
theorem T29 : TT 29 = some af29 := by rfl
theorem T34 : TT 34 = some af34 := by rfl
theorem T37 : TT 37 = some af37 := by rfl
theorem T38 : TT 38 = some af38 := by rfl
theorem T39 : TT 39 = some af39 := by rfl
theorem T40 : TT 40 = some af40 := by rfl
theorem T41 : TT 41 = some af41 := by rfl
theorem T47 : TT 47 = some af47 := by rfl
theorem T48 : TT 48 = some af48 := by rfl
theorem T53 : TT 53 = some af53 := by rfl
theorem T54 : TT 54 = some af54 := by rfl
theorem T55 : TT 55 = some af55 := by rfl
theorem T60 : TT 60 = some af60 := by rfl
theorem T61 : TT 61 = some af61 := by rfl
theorem T62 : TT 62 = some af62 := by rfl
theorem T64 : TT 64 = some af64 := by rfl
theorem T65 : TT 65 = some af65 := by rfl
theorem T66 : TT 66 = some af66 := by rfl
theorem T67 : TT 67 = some af67 := by rfl
theorem T69 : TT 69 = some af69 := by rfl
theorem T74 : TT 74 = some af74 := by rfl
theorem T76 : TT 76 = some af76 := by rfl
theorem T77 : TT 77 = some af77 := by rfl
theorem T78 : TT 78 = some af78 := by rfl
theorem T79 : TT 79 = some af79 := by rfl
theorem T80 : TT 80 = some af80 := by rfl
theorem T81 : TT 81 = some af81 := by rfl
theorem T82 : TT 82 = some af82 := by rfl
theorem T87 : TT 87 = some af87 := by rfl
theorem T88 : TT 88 = some af88 := by rfl
theorem T89 : TT 89 = some af89 := by rfl
theorem T90 : TT 90 = some af90 := by rfl
theorem T97 : TT 97 = some af97 := by rfl
theorem T98 : TT 98 = some af98 := by rfl
theorem T105 : TT 105 = some af105 := by rfl
theorem T106 : TT 106 = some af106 := by rfl
theorem T108 : TT 108 = some af108 := by rfl
theorem T109 : TT 109 = some af109 := by rfl
theorem T117 : TT 117 = some af117 := by rfl
theorem T118 : TT 118 = some af118 := by rfl
theorem T119 : TT 119 = some af119 := by rfl
theorem T120 : TT 120 = some af120 := by rfl
theorem T121 : TT 121 = some af121 := by rfl
theorem T122 : TT 122 = some af122 := by rfl
theorem T123 : TT 123 = some af123 := by rfl
theorem T124 : TT 124 = some af124 := by rfl
theorem T125 : TT 125 = some af125 := by rfl
theorem T126 : TT 126 = some af126 := by rfl
theorem T130 : TT 130 = some af130 := by rfl
theorem T131 : TT 131 = some af131 := by rfl
theorem T136 : TT 136 = some af136 := by rfl
theorem T149 : TT 149 = some af149 := by rfl
theorem T150 : TT 150 = some af150 := by rfl
theorem T154 : TT 154 = some af154 := by rfl
theorem T155 : TT 155 = some af155 := by rfl
theorem T161 : TT 161 = some af161 := by rfl
theorem T162 : TT 162 = some af162 := by rfl
theorem T168 : TT 168 = some af168 := by rfl
theorem T169 : TT 169 = some af169 := by rfl
theorem T170 : TT 170 = some af170 := by rfl
theorem T171 : TT 171 = some af171 := by rfl
theorem T172 : TT 172 = some af172 := by rfl
theorem T186 : TT 186 = some af186 := by rfl
theorem T187 : TT 187 = some af187 := by rfl
theorem T188 : TT 188 = some af188 := by rfl
theorem T189 : TT 189 = some af189 := by rfl
theorem T200 : TT 200 = some af200 := by rfl
theorem T201 : TT 201 = some af201 := by rfl
theorem T209 : TT 209 = some af209 := by rfl
theorem T210 : TT 210 = some af210 := by rfl
theorem T219 : TT 219 = some af219 := by rfl
theorem T224 : TT 224 = some af224 := by rfl
theorem T225 : TT 225 = some af225 := by rfl
theorem T226 : TT 226 = some af226 := by rfl
theorem T227 : TT 227 = some af227 := by rfl
theorem T228 : TT 228 = some af228 := by rfl
theorem T229 : TT 229 = some af229 := by rfl
theorem T230 : TT 230 = some af230 := by rfl
theorem P57 : PT 57 = some cutS := by rfl
theorem P58 : PT 58 = some cpS := by rfl
theorem P59 : PT 59 = some atoiS := by rfl
theorem P63 : PT 63 = some splitS := by rfl
theorem P70 : PT 70 = some itoaS := by rfl
theorem P73 : PT 73 = some repS := by rfl
theorem P75 : PT 75 = some hpS := by rfl
theorem P83 : PT 83 = some fmtS := by rfl
theorem P99 : PT 99 = some ibS := by rfl
theorem P104 : PT 104 = some splitNS := by rfl
theorem P159 : PT 159 = some kwS := by rfl
theorem P160 : PT 160 = some tlS := by rfl
theorem P190 : PT 190 = some nameS := by rfl
theorem P194 : PT 194 = some cmpS := by rfl
theorem P199 : PT 199 = some piS := by rfl
theorem ok7 : okF Tryz.prog (GT m) 7 af7 = true := by kernel_rfl
theorem ok10 : okF Tryz.prog (GT m) 10 af10 = true := by kernel_rfl
theorem ok16 : okF Tryz.prog (GT m) 16 af16 = true := by kernel_rfl
theorem ok21 : okF Tryz.prog (GT m) 21 af21 = true := by kernel_rfl
theorem ok23 : okF Tryz.prog (GT m) 23 af23 = true := by kernel_rfl
theorem ok25 : okF Tryz.prog (GT m) 25 af25 = true := by kernel_rfl
theorem ok27 : okF Tryz.prog (GT m) 27 af27 = true := by kernel_rfl
theorem ok28 : okF Tryz.prog (GT m) 28 af28 = true := by kernel_rfl
theorem ok29 : okF Tryz.prog (GT m) 29 af29 = true := by kernel_rfl
theorem ok34 : okF Tryz.prog (GT m) 34 af34 = true := by kernel_rfl
theorem ok37 : okF Tryz.prog (GT m) 37 af37 = true := by kernel_rfl
theorem ok39 : okF Tryz.prog (GT m) 39 af39 = true := by kernel_rfl
theorem ok40 : okF Tryz.prog (GT m) 40 af40 = true := by kernel_rfl
theorem ok41 : okF Tryz.prog (GT m) 41 af41 = true := by kernel_rfl
theorem ok47 : okF Tryz.prog (GT m) 47 af47 = true := by kernel_rfl
theorem ok48 : okF Tryz.prog (GT m) 48 af48 = true := by kernel_rfl
theorem ok53 : okF Tryz.prog (GT m) 53 af53 = true := by kernel_rfl
theorem ok54 : okF Tryz.prog (GT m) 54 af54 = true := by kernel_rfl
theorem ok55 : okF Tryz.prog (GT m) 55 af55 = true := by kernel_rfl
theorem ok60 : okF Tryz.prog (GT m) 60 af60 = true := by kernel_rfl
theorem ok61 : okF Tryz.prog (GT m) 61 af61 = true := by kernel_rfl
theorem ok62 : okF Tryz.prog (GT m) 62 af62 = true := by kernel_rfl
theorem ok64 : okF Tryz.prog (GT m) 64 af64 = true := by kernel_rfl
theorem ok65 : okF Tryz.prog (GT m) 65 af65 = true := by kernel_rfl
theorem ok66 : okF Tryz.prog (GT m) 66 af66 = true := by kernel_rfl
theorem ok67 : okF Tryz.prog (GT m) 67 af67 = true := by kernel_rfl
theorem ok74 : okF Tryz.prog (GT m) 74 af74 = true := by kernel_rfl
theorem ok76 : okF Tryz.prog (GT m) 76 af76 = true := by kernel_rfl
theorem ok77 : okF Tryz.prog (GT m) 77 af77 = true := by kernel_rfl
theorem ok78 : okF Tryz.prog (GT m) 78 af78 = true := by kernel_rfl
theorem ok79 : okF Tryz.prog (GT m) 79 af79 = true := by kernel_rfl
theorem ok80 : okF Tryz.prog (GT m) 80 af80 = true := by kernel_rfl
theorem ok81 : okF Tryz.prog (GT m) 81 af81 = true := by kernel_rfl
theorem ok82 : okF Tryz.prog (GT m) 82 af82 = true := by kernel_rfl
theorem ok87 : okF Tryz.prog (GT m) 87 af87 = true := by kernel_rfl
theorem ok88 : okF Tryz.prog (GT m) 88 af88 = true := by kernel_rfl
theorem ok89 : okF Tryz.prog (GT m) 89 af89 = true := by kernel_rfl
theorem ok90 : okF Tryz.prog (GT m) 90 af90 = true := by kernel_rfl
theorem ok97 : okF Tryz.prog (GT m) 97 af97 = true := by kernel_rfl
theorem ok98 : okF Tryz.prog (GT m) 98 af98 = true := by kernel_rfl
theorem ok105 : okF Tryz.prog (GT m) 105 af105 = true := by kernel_rfl
theorem ok106 : okF Tryz.prog (GT m) 106 af106 = true := by kernel_rfl
theorem ok108 : okF Tryz.prog (GT m) 108 af108 = true := by kernel_rfl
theorem ok109 : okF Tryz.prog (GT m) 109 af109 = true := by kernel_rfl
theorem ok117 : okF Tryz.prog (GT m) 117 af117 = true := by kernel_rfl
theorem ok118 : okF Tryz.prog (GT m) 118 af118 = true := by kernel_rfl
theorem ok119 : okF Tryz.prog (GT m) 119 af119 = true := by kernel_rfl
theorem ok120 : okF Tryz.prog (GT m) 120 af120 = true := by kernel_rfl
theorem ok121 : okF Tryz.prog (GT m) 121 af121 = true := by kernel_rfl
theorem ok122 : okF Tryz.prog (GT m) 122 af122 = true := by kernel_rfl
theorem ok123 : okF Tryz.prog (GT m) 123 af123 = true := by kernel_rfl
theorem ok124 : okF Tryz.prog (GT m) 124 af124 = true := by kernel_rfl
theorem ok125 : okF Tryz.prog (GT m) 125 af125 = true := by kernel_rfl
theorem ok126 : okF Tryz.prog (GT m) 126 af126 = true := by kernel_rfl
theorem ok130 : okF Tryz.prog (GT m) 130 af130 = true := by kernel_rfl
theorem ok131 : okF Tryz.prog (GT m) 131 af131 = true := by kernel_rfl
theorem ok136 : okF Tryz.prog (GT m) 136 af136 = true := by kernel_rfl
theorem ok149 : okF Tryz.prog (GT m) 149 af149 = true := by kernel_rfl
theorem ok150 : okF Tryz.prog (GT m) 150 af150 = true := by kernel_rfl
theorem ok154 : okF Tryz.prog (GT m) 154 af154 = true := by kernel_rfl
theorem ok155 : okF Tryz.prog (GT m) 155 af155 = true := by kernel_rfl
theorem ok161 : okF Tryz.prog (GT m) 161 af161 = true := by kernel_rfl
theorem ok162 : okF Tryz.prog (GT m) 162 af162 = true := by kernel_rfl
theorem ok168 : okF Tryz.prog (GT m) 168 af168 = true := by kernel_rfl
theorem ok169 : okF Tryz.prog (GT m) 169 af169 = true := by kernel_rfl
theorem ok170 : okF Tryz.prog (GT m) 170 af170 = true := by kernel_rfl
theorem ok171 : okF Tryz.prog (GT m) 171 af171 = true := by kernel_rfl
theorem ok172 : okF Tryz.prog (GT m) 172 af172 = true := by kernel_rfl
theorem ok186 : okF Tryz.prog (GT m) 186 af186 = true := by kernel_rfl
theorem ok187 : okF Tryz.prog (GT m) 187 af187 = true := by kernel_rfl
theorem ok188 : okF Tryz.prog (GT m) 188 af188 = true := by kernel_rfl
theorem ok189 : okF Tryz.prog (GT m) 189 af189 = true := by kernel_rfl
theorem ok200 : okF Tryz.prog (GT m) 200 af200 = true := by kernel_rfl
theorem ok201 : okF Tryz.prog (GT m) 201 af201 = true := by kernel_rfl
theorem ok209 : okF Tryz.prog (GT m) 209 af209 = true := by kernel_rfl
theorem ok210 : okF Tryz.prog (GT m) 210 af210 = true := by kernel_rfl
theorem ok219 : okF Tryz.prog (GT m) 219 af219 = true := by kernel_rfl
theorem ok224 : okF Tryz.prog (GT m) 224 af224 = true := by kernel_rfl
theorem ok225 : okF Tryz.prog (GT m) 225 af225 = true := by kernel_rfl
theorem ok226 : okF Tryz.prog (GT m) 226 af226 = true := by kernel_rfl
theorem ok227 : okF Tryz.prog (GT m) 227 af227 = true := by kernel_rfl
theorem ok228 : okF Tryz.prog (GT m) 228 af228 = true := by kernel_rfl
theorem ok229 : okF Tryz.prog (GT m) 229 af229 = true := by kernel_rfl
theorem ok230 : okF Tryz.prog (GT m) 230 af230 = true := by kernel_rfl
theorem lookup_mem {α : Type} : ∀ {l : List (Nat × α)} {f : Nat} {a : α}, l.lookup f = some a → (f, a) ∈ l
  | [], _, _, h => by cases h
  | (g, b) :: l, f, a, h => by
    rw [List.lookup_cons] at h
    split at h
    · rename_i he
      cases h
      rw [eq_of_beq he]
      exact List.mem_cons_self
    · exact List.mem_cons_of_mem _ (lookup_mem h)
theorem hTT : ∀ f F, TT f = some F → F.spec = none → okF Tryz.prog (GT m) f F = true := by
  intro f F h hs
  have hm := lookup_mem h
  simp only [tabL, List.mem_cons, List.not_mem_nil, or_false, Prod.mk.injEq] at hm
  rcases hm with ⟨rfl, rfl⟩ | ⟨rfl, rfl⟩ | ⟨rfl, rfl⟩ | ⟨rfl, rfl⟩ | ⟨rfl, rfl⟩ | ⟨rfl, rfl⟩ | ⟨rfl, rfl⟩ | ⟨rfl, rfl⟩ | ⟨rfl, rfl⟩ | ⟨rfl, rfl⟩ | ⟨rfl, rfl⟩ | ⟨rfl, rfl⟩ | ⟨rfl, rfl⟩ | ⟨rfl, rfl⟩ | ⟨rfl, rfl⟩ | ⟨rfl, rfl⟩ | ⟨rfl, rfl⟩ | ⟨rfl, rfl⟩ | ⟨rfl, rfl⟩ | ⟨rfl, rfl⟩ | ⟨rfl, rfl⟩ | ⟨rfl, rfl⟩ | ⟨rfl, rfl⟩ | ⟨rfl, rfl⟩ | ⟨rfl, rfl⟩ | ⟨rfl, rfl⟩ | ⟨rfl, rfl⟩ | ⟨rfl, rfl⟩ | ⟨rfl, rfl⟩ | ⟨rfl, rfl⟩ | ⟨rfl, rfl⟩ | ⟨rfl, rfl⟩ | ⟨rfl, rfl⟩ | ⟨rfl, rfl⟩ | ⟨rfl, rfl⟩ | ⟨rfl, rfl⟩ | ⟨rfl, rfl⟩ | ⟨rfl, rfl⟩ | ⟨rfl, rfl⟩ | ⟨rfl, rfl⟩ | ⟨rfl, rfl⟩ | ⟨rfl, rfl⟩ | ⟨rfl, rfl⟩ | ⟨rfl, rfl⟩ | ⟨rfl, rfl⟩ | ⟨rfl, rfl⟩ | ⟨rfl, rfl⟩ | ⟨rfl, rfl⟩ | ⟨rfl, rfl⟩ | ⟨rfl, rfl⟩ | ⟨rfl, rfl⟩ | ⟨rfl, rfl⟩ | ⟨rfl, rfl⟩ | ⟨rfl, rfl⟩ | ⟨rfl, rfl⟩ | ⟨rfl, rfl⟩ | ⟨rfl, rfl⟩ | ⟨rfl, rfl⟩ | ⟨rfl, rfl⟩ | ⟨rfl, rfl⟩ | ⟨rfl, rfl⟩ | ⟨rfl, rfl⟩ | ⟨rfl, rfl⟩ | ⟨rfl, rfl⟩ | ⟨rfl, rfl⟩ | ⟨rfl, rfl⟩ | ⟨rfl, rfl⟩ | ⟨rfl, rfl⟩ | ⟨rfl, rfl⟩ | ⟨rfl, rfl⟩ | ⟨rfl, rfl⟩ | ⟨rfl, rfl⟩ | ⟨rfl, rfl⟩ | ⟨rfl, rfl⟩ | ⟨rfl, rfl⟩ | ⟨rfl, rfl⟩ | ⟨rfl, rfl⟩ | ⟨rfl, rfl⟩ | ⟨rfl, rfl⟩ | ⟨rfl, rfl⟩ | ⟨rfl, rfl⟩ | ⟨rfl, rfl⟩ | ⟨rfl, rfl⟩ | ⟨rfl, rfl⟩ | ⟨rfl, rfl⟩ | ⟨rfl, rfl⟩
  · exact ok7
  · exact ok10
  · exact ok16
  · exact ok21
  · exact ok23
  · exact ok25
  · exact ok27
  · exact ok28
  · exact ok29
  · exact ok34
  · exact ok37
  · cases hs
  · exact ok39
  · exact ok40
  · exact ok41
  · exact ok47
  · exact ok48
  · exact ok53
  · exact ok54
  · exact ok55
  · exact ok60
  · exact ok61
  · exact ok62
  · exact ok64
  · exact ok65
  · exact ok66
  · exact ok67
  · cases hs
  · exact ok74
  · exact ok76
  · exact ok77
  · exact ok78
  · exact ok79
  · exact ok80
  · exact ok81
  · exact ok82
  · exact ok87
  · exact ok88
  · exact ok89
  · exact ok90
  · exact ok97
  · exact ok98
  · exact ok105
  · exact ok106
  · exact ok108
  · exact ok109
  · exact ok117
  · exact ok118
  · exact ok119
  · exact ok120
  · exact ok121
  · exact ok122
  · exact ok123
  · exact ok124
  · exact ok125
  · exact ok126
  · exact ok130
  · exact ok131
  · exact ok136
  · exact ok149
  · exact ok150
  · exact ok154
  · exact ok155
  · exact ok161
  · exact ok162
  · exact ok168
  · exact ok169
  · exact ok170
  · exact ok171
  · exact ok172
  · exact ok186
  · exact ok187
  · exact ok188
  · exact ok189
  · exact ok200
  · exact ok201
  · exact ok209
  · exact ok210
  · exact ok219
  · exact ok224
  · exact ok225
  · exact ok226
  · exact ok227
  · exact ok228
  · exact ok229
  · exact ok230
theorem hST : ∀ f F s, TT f = some F → F.spec = some s → ThrOk Tryz.prog (GT m) f s := by
  intro f F s h hs
  have hm := lookup_mem h
  simp only [tabL, List.mem_cons, List.not_mem_nil, or_false, Prod.mk.injEq] at hm
  rcases hm with ⟨rfl, rfl⟩ | ⟨rfl, rfl⟩ | ⟨rfl, rfl⟩ | ⟨rfl, rfl⟩ | ⟨rfl, rfl⟩ | ⟨rfl, rfl⟩ | ⟨rfl, rfl⟩ | ⟨rfl, rfl⟩ | ⟨rfl, rfl⟩ | ⟨rfl, rfl⟩ | ⟨rfl, rfl⟩ | ⟨rfl, rfl⟩ | ⟨rfl, rfl⟩ | ⟨rfl, rfl⟩ | ⟨rfl, rfl⟩ | ⟨rfl, rfl⟩ | ⟨rfl, rfl⟩ | ⟨rfl, rfl⟩ | ⟨rfl, rfl⟩ | ⟨rfl, rfl⟩ | ⟨rfl, rfl⟩ | ⟨rfl, rfl⟩ | ⟨rfl, rfl⟩ | ⟨rfl, rfl⟩ | ⟨rfl, rfl⟩ | ⟨rfl, rfl⟩ | ⟨rfl, rfl⟩ | ⟨rfl, rfl⟩ | ⟨rfl, rfl⟩ | ⟨rfl, rfl⟩ | ⟨rfl, rfl⟩ | ⟨rfl, rfl⟩ | ⟨rfl, rfl⟩ | ⟨rfl, rfl⟩ | ⟨rfl, rfl⟩ | ⟨rfl, rfl⟩ | ⟨rfl, rfl⟩ | ⟨rfl, rfl⟩ | ⟨rfl, rfl⟩ | ⟨rfl, rfl⟩ | ⟨rfl, rfl⟩ | ⟨rfl, rfl⟩ | ⟨rfl, rfl⟩ | ⟨rfl, rfl⟩ | ⟨rfl, rfl⟩ | ⟨rfl, rfl⟩ | ⟨rfl, rfl⟩ | ⟨rfl, rfl⟩ | ⟨rfl, rfl⟩ | ⟨rfl, rfl⟩ | ⟨rfl, rfl⟩ | ⟨rfl, rfl⟩ | ⟨rfl, rfl⟩ | ⟨rfl, rfl⟩ | ⟨rfl, rfl⟩ | ⟨rfl, rfl⟩ | ⟨rfl, rfl⟩ | ⟨rfl, rfl⟩ | ⟨rfl, rfl⟩ | ⟨rfl, rfl⟩ | ⟨rfl, rfl⟩ | ⟨rfl, rfl⟩ | ⟨rfl, rfl⟩ | ⟨rfl, rfl⟩ | ⟨rfl, rfl⟩ | ⟨rfl, rfl⟩ | ⟨rfl, rfl⟩ | ⟨rfl, rfl⟩ | ⟨rfl, rfl⟩ | ⟨rfl, rfl⟩ | ⟨rfl, rfl⟩ | ⟨rfl, rfl⟩ | ⟨rfl, rfl⟩ | ⟨rfl, rfl⟩ | ⟨rfl, rfl⟩ | ⟨rfl, rfl⟩ | ⟨rfl, rfl⟩ | ⟨rfl, rfl⟩ | ⟨rfl, rfl⟩ | ⟨rfl, rfl⟩ | ⟨rfl, rfl⟩ | ⟨rfl, rfl⟩ | ⟨rfl, rfl⟩ | ⟨rfl, rfl⟩ | ⟨rfl, rfl⟩ | ⟨rfl, rfl⟩
  · cases hs
  · cases hs
  · cases hs
  · cases hs
  · cases hs
  · cases hs
  · cases hs
  · cases hs
  · cases hs
  · cases hs
  · cases hs
  · cases hs; exact str_ok
  · cases hs
  · cases hs
  · cases hs
  · cases hs
  · cases hs
  · cases hs
  · cases hs
  · cases hs
  · cases hs
  · cases hs
  · cases hs
  · cases hs
  · cases hs
  · cases hs
  · cases hs
  · cases hs; exact cc_ok
  · cases hs
  · cases hs
  · cases hs
  · cases hs
  · cases hs
  · cases hs
  · cases hs
  · cases hs
  · cases hs
  · cases hs
  · cases hs
  · cases hs
  · cases hs
  · cases hs
  · cases hs
  · cases hs
  · cases hs
  · cases hs
  · cases hs
  · cases hs
  · cases hs
  · cases hs
  · cases hs
  · cases hs
  · cases hs
  · cases hs
  · cases hs
  · cases hs
  · cases hs
  · cases hs
  · cases hs
  · cases hs
  · cases hs
  · cases hs
  · cases hs
  · cases hs
  · cases hs
  · cases hs
  · cases hs
  · cases hs
  · cases hs
  · cases hs
  · cases hs
  · cases hs
  · cases hs
  · cases hs
  · cases hs
  · cases hs
  · cases hs
  · cases hs
  · cases hs
  · cases hs
  · cases hs
  · cases hs
  · cases hs
  · cases hs
  · cases hs
  · cases hs
theorem hPT : ∀ f s, PT f = some s → PrimOk Tryz.prog (GT m) f s := by
  intro f s h
  have hm := lookup_mem h
  simp only [prL, List.mem_cons, List.not_mem_nil, or_false, Prod.mk.injEq] at hm
  rcases hm with ⟨rfl, rfl⟩ | ⟨rfl, rfl⟩ | ⟨rfl, rfl⟩ | ⟨rfl, rfl⟩ | ⟨rfl, rfl⟩ | ⟨rfl, rfl⟩ | ⟨rfl, rfl⟩ | ⟨rfl, rfl⟩ | ⟨rfl, rfl⟩ | ⟨rfl, rfl⟩ | ⟨rfl, rfl⟩ | ⟨rfl, rfl⟩ | ⟨rfl, rfl⟩ | ⟨rfl, rfl⟩ | ⟨rfl, rfl⟩
  · exact cut_ok (hMax m)
  · exact cp_ok
  · exact atoi_ok hEs hEr
  · exact split_ok (hMax m)
  · exact itoa_ok hPow
  · exact rep_ok
  · exact hp_ok
  · exact fmt_ok hPow
  · exact ib_ok
  · exact splitN_ok (hMax m)
  · exact kw_ok hKw
  · exact tl_ok
  · exact name_ok hKw
  · exact cmp_ok
  · exact pi_ok hEs hEr
theorem hSt : ∀ f F, TT f = some F → F.spec = none → statQ F.body = true := by
  intro f F h _
  have hm := lookup_mem h
  have hall : (tabL.all fun p => statQ p.2.body) = true := by kernel_rfl
  exact List.all_eq_true.1 hall _ hm
end Go.Proofs.YtlehfgdhebapeaaGreatDoor.KM
