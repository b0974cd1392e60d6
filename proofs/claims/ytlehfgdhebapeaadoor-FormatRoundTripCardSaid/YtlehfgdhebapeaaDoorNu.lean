/- The table of functions, and that each form is the program's function. Printed by km_table.py. -/
import Derived.Test.YtlehfgdhebapeaaDoorNt
set_option linter.all false
namespace Go.Proofs.YtlehfgdhebapeaaDoor.KM
open Go
def GT (m : Int) : List (Nat × List V) := [(0, gOps), (1, [.int .i64 m]), (2, gPow), (3, gKw), (8, [.ifc]), (9, [.ifc])]
variable {m : Int}
theorem hPow : (2, gPow) ∈ GT m := by simp [GT]
theorem hEs : (8, [V.ifc]) ∈ GT m := by simp [GT]
theorem hEr : (9, [V.ifc]) ∈ GT m := by simp [GT]
theorem hKw : (3, gKw) ∈ GT m := by simp [GT]
def tabL : List (Nat × AF) := [(6, af6), (15, af15), (16, af16), (17, af17), (18, af18), (19, af19), (23, af23), (27, af27), (39, af39), (40, af40), (41, af41), (42, af42), (43, af43), (45, af45), (62, af62), (63, af63), (64, af64), (65, af65), (66, af66), (68, af68), (69, af69), (70, af70), (93, af93), (94, af94), (95, af95), (96, af96), (97, af97), (98, af98), (99, af99), (116, af116), (117, af117), (118, af118), (119, af119), (133, af133), (134, af134), (135, af135)]
def prL : List (Nat × (List V → Option V)) := [(51, fmtS), (67, hpS), (92, ibS), (114, kwS), (115, tlS), (141, piS)]
def TT (f : Nat) : Option AF := tabL.lookup f
def PT (f : Nat) : Option (List V → Option V) := prL.lookup f
theorem T6 : TT 6 = some af6 := by rfl
theorem T15 : TT 15 = some af15 := by rfl
theorem T16 : TT 16 = some af16 := by rfl
theorem T17 : TT 17 = some af17 := by rfl
theorem T18 : TT 18 = some af18 := by rfl
theorem T19 : TT 19 = some af19 := by rfl
theorem T23 : TT 23 = some af23 := by rfl
theorem T27 : TT 27 = some af27 := by rfl
theorem T39 : TT 39 = some af39 := by rfl
theorem T40 : TT 40 = some af40 := by rfl
theorem T41 : TT 41 = some af41 := by rfl
theorem T42 : TT 42 = some af42 := by rfl
theorem T43 : TT 43 = some af43 := by rfl
theorem T45 : TT 45 = some af45 := by rfl
theorem T62 : TT 62 = some af62 := by rfl
theorem T63 : TT 63 = some af63 := by rfl
theorem T64 : TT 64 = some af64 := by rfl
theorem T65 : TT 65 = some af65 := by rfl
theorem T66 : TT 66 = some af66 := by rfl
theorem T68 : TT 68 = some af68 := by rfl
theorem T69 : TT 69 = some af69 := by rfl
theorem T70 : TT 70 = some af70 := by rfl
theorem T93 : TT 93 = some af93 := by rfl
theorem T94 : TT 94 = some af94 := by rfl
theorem T95 : TT 95 = some af95 := by rfl
theorem T96 : TT 96 = some af96 := by rfl
theorem T97 : TT 97 = some af97 := by rfl
theorem T98 : TT 98 = some af98 := by rfl
theorem T99 : TT 99 = some af99 := by rfl
theorem T116 : TT 116 = some af116 := by rfl
theorem T117 : TT 117 = some af117 := by rfl
theorem T118 : TT 118 = some af118 := by rfl
theorem T119 : TT 119 = some af119 := by rfl
theorem T133 : TT 133 = some af133 := by rfl
theorem T134 : TT 134 = some af134 := by rfl
theorem T135 : TT 135 = some af135 := by rfl
theorem P51 : PT 51 = some fmtS := by rfl
theorem P67 : PT 67 = some hpS := by rfl
theorem P92 : PT 92 = some ibS := by rfl
theorem P114 : PT 114 = some kwS := by rfl
theorem P115 : PT 115 = some tlS := by rfl
theorem P141 : PT 141 = some piS := by rfl
theorem ok6 : okF Tryd.prog (GT m) 6 af6 = true := by kernel_rfl
theorem ok15 : okF Tryd.prog (GT m) 15 af15 = true := by kernel_rfl
theorem ok16 : okF Tryd.prog (GT m) 16 af16 = true := by kernel_rfl
theorem ok17 : okF Tryd.prog (GT m) 17 af17 = true := by kernel_rfl
theorem ok18 : okF Tryd.prog (GT m) 18 af18 = true := by kernel_rfl
theorem ok19 : okF Tryd.prog (GT m) 19 af19 = true := by kernel_rfl
theorem ok23 : okF Tryd.prog (GT m) 23 af23 = true := by kernel_rfl
theorem ok39 : okF Tryd.prog (GT m) 39 af39 = true := by kernel_rfl
theorem ok40 : okF Tryd.prog (GT m) 40 af40 = true := by kernel_rfl
theorem ok41 : okF Tryd.prog (GT m) 41 af41 = true := by kernel_rfl
theorem ok42 : okF Tryd.prog (GT m) 42 af42 = true := by kernel_rfl
theorem ok43 : okF Tryd.prog (GT m) 43 af43 = true := by kernel_rfl
theorem ok62 : okF Tryd.prog (GT m) 62 af62 = true := by kernel_rfl
theorem ok63 : okF Tryd.prog (GT m) 63 af63 = true := by kernel_rfl
theorem ok64 : okF Tryd.prog (GT m) 64 af64 = true := by kernel_rfl
theorem ok65 : okF Tryd.prog (GT m) 65 af65 = true := by kernel_rfl
theorem ok66 : okF Tryd.prog (GT m) 66 af66 = true := by kernel_rfl
theorem ok68 : okF Tryd.prog (GT m) 68 af68 = true := by kernel_rfl
theorem ok69 : okF Tryd.prog (GT m) 69 af69 = true := by kernel_rfl
theorem ok70 : okF Tryd.prog (GT m) 70 af70 = true := by kernel_rfl
theorem ok93 : okF Tryd.prog (GT m) 93 af93 = true := by kernel_rfl
theorem ok94 : okF Tryd.prog (GT m) 94 af94 = true := by kernel_rfl
theorem ok95 : okF Tryd.prog (GT m) 95 af95 = true := by kernel_rfl
theorem ok96 : okF Tryd.prog (GT m) 96 af96 = true := by kernel_rfl
theorem ok97 : okF Tryd.prog (GT m) 97 af97 = true := by kernel_rfl
theorem ok98 : okF Tryd.prog (GT m) 98 af98 = true := by kernel_rfl
theorem ok99 : okF Tryd.prog (GT m) 99 af99 = true := by kernel_rfl
theorem ok116 : okF Tryd.prog (GT m) 116 af116 = true := by kernel_rfl
theorem ok117 : okF Tryd.prog (GT m) 117 af117 = true := by kernel_rfl
theorem ok118 : okF Tryd.prog (GT m) 118 af118 = true := by kernel_rfl
theorem ok119 : okF Tryd.prog (GT m) 119 af119 = true := by kernel_rfl
theorem ok133 : okF Tryd.prog (GT m) 133 af133 = true := by kernel_rfl
theorem ok134 : okF Tryd.prog (GT m) 134 af134 = true := by kernel_rfl
theorem ok135 : okF Tryd.prog (GT m) 135 af135 = true := by kernel_rfl
theorem lookup_mem {α : Type} : ∀ {l : List (Nat × α)} {f : Nat} {a : α}, l.lookup f = some a → (f, a) ∈ l
  | [], _, _, h => by cases h
  | (g, b) :: l, f, a, h => by
    rw [List.lookup_cons] at h
    split at h
    · rename_i he
      cases h
      rw [eq_of_beq he]
      exact List.mem_cons_self
    · exact List.mem_cons_of_mem _ (lookup_mem h)
theorem hTT : ∀ f F, TT f = some F → F.spec = none → okF Tryd.prog (GT m) f F = true := by
  intro f F h hs
  have hm := lookup_mem h
  simp only [tabL, List.mem_cons, List.not_mem_nil, or_false, Prod.mk.injEq] at hm
  rcases hm with ⟨rfl, rfl⟩ | ⟨rfl, rfl⟩ | ⟨rfl, rfl⟩ | ⟨rfl, rfl⟩ | ⟨rfl, rfl⟩ | ⟨rfl, rfl⟩ | ⟨rfl, rfl⟩ | ⟨rfl, rfl⟩ | ⟨rfl, rfl⟩ | ⟨rfl, rfl⟩ | ⟨rfl, rfl⟩ | ⟨rfl, rfl⟩ | ⟨rfl, rfl⟩ | ⟨rfl, rfl⟩ | ⟨rfl, rfl⟩ | ⟨rfl, rfl⟩ | ⟨rfl, rfl⟩ | ⟨rfl, rfl⟩ | ⟨rfl, rfl⟩ | ⟨rfl, rfl⟩ | ⟨rfl, rfl⟩ | ⟨rfl, rfl⟩ | ⟨rfl, rfl⟩ | ⟨rfl, rfl⟩ | ⟨rfl, rfl⟩ | ⟨rfl, rfl⟩ | ⟨rfl, rfl⟩ | ⟨rfl, rfl⟩ | ⟨rfl, rfl⟩ | ⟨rfl, rfl⟩ | ⟨rfl, rfl⟩ | ⟨rfl, rfl⟩ | ⟨rfl, rfl⟩ | ⟨rfl, rfl⟩ | ⟨rfl, rfl⟩ | ⟨rfl, rfl⟩
  · exact ok6
  · exact ok15
  · exact ok16
  · exact ok17
  · exact ok18
  · exact ok19
  · exact ok23
  · cases hs
  · exact ok39
  · exact ok40
  · exact ok41
  · exact ok42
  · exact ok43
  · cases hs
  · exact ok62
  · exact ok63
  · exact ok64
  · exact ok65
  · exact ok66
  · exact ok68
  · exact ok69
  · exact ok70
  · exact ok93
  · exact ok94
  · exact ok95
  · exact ok96
  · exact ok97
  · exact ok98
  · exact ok99
  · exact ok116
  · exact ok117
  · exact ok118
  · exact ok119
  · exact ok133
  · exact ok134
  · exact ok135
theorem hST : ∀ f F s, TT f = some F → F.spec = some s → ThrOk Tryd.prog (GT m) f s := by
  intro f F s h hs
  have hm := lookup_mem h
  simp only [tabL, List.mem_cons, List.not_mem_nil, or_false, Prod.mk.injEq] at hm
  rcases hm with ⟨rfl, rfl⟩ | ⟨rfl, rfl⟩ | ⟨rfl, rfl⟩ | ⟨rfl, rfl⟩ | ⟨rfl, rfl⟩ | ⟨rfl, rfl⟩ | ⟨rfl, rfl⟩ | ⟨rfl, rfl⟩ | ⟨rfl, rfl⟩ | ⟨rfl, rfl⟩ | ⟨rfl, rfl⟩ | ⟨rfl, rfl⟩ | ⟨rfl, rfl⟩ | ⟨rfl, rfl⟩ | ⟨rfl, rfl⟩ | ⟨rfl, rfl⟩ | ⟨rfl, rfl⟩ | ⟨rfl, rfl⟩ | ⟨rfl, rfl⟩ | ⟨rfl, rfl⟩ | ⟨rfl, rfl⟩ | ⟨rfl, rfl⟩ | ⟨rfl, rfl⟩ | ⟨rfl, rfl⟩ | ⟨rfl, rfl⟩ | ⟨rfl, rfl⟩ | ⟨rfl, rfl⟩ | ⟨rfl, rfl⟩ | ⟨rfl, rfl⟩ | ⟨rfl, rfl⟩ | ⟨rfl, rfl⟩ | ⟨rfl, rfl⟩ | ⟨rfl, rfl⟩ | ⟨rfl, rfl⟩ | ⟨rfl, rfl⟩ | ⟨rfl, rfl⟩
  · cases hs
  · cases hs
  · cases hs
  · cases hs
  · cases hs
  · cases hs
  · cases hs
  · cases hs; exact str_ok
  · cases hs
  · cases hs
  · cases hs
  · cases hs
  · cases hs
  · cases hs; exact cc_ok
  · cases hs
  · cases hs
  · cases hs
  · cases hs
  · cases hs
  · cases hs
  · cases hs
  · cases hs
  · cases hs
  · cases hs
  · cases hs
  · cases hs
  · cases hs
  · cases hs
  · cases hs
  · cases hs
  · cases hs
  · cases hs
  · cases hs
  · cases hs
  · cases hs
  · cases hs
theorem hPT : ∀ f s, PT f = some s → PrimOk Tryd.prog (GT m) f s := by
  intro f s h
  have hm := lookup_mem h
  simp only [prL, List.mem_cons, List.not_mem_nil, or_false, Prod.mk.injEq] at hm
  rcases hm with ⟨rfl, rfl⟩ | ⟨rfl, rfl⟩ | ⟨rfl, rfl⟩ | ⟨rfl, rfl⟩ | ⟨rfl, rfl⟩ | ⟨rfl, rfl⟩
  · exact fmt_ok hPow
  · exact hp_ok
  · exact ib_ok
  · exact kw_ok hKw
  · exact tl_ok
  · exact pi_ok hEs hEr
theorem hSt : ∀ f F, TT f = some F → F.spec = none → statQ F.body = true := by
  intro f F h _
  have hm := lookup_mem h
  have hall : (tabL.all fun p => statQ p.2.body) = true := by kernel_rfl
  exact List.all_eq_true.1 hall _ hm
end Go.Proofs.YtlehfgdhebapeaaDoor.KM
