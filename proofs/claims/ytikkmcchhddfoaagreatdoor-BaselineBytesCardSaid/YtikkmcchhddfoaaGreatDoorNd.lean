/- The forms of what decodeBody reaches, printed by gen_nd.py. -/
import Derived.Test.YtikkmcchhddfoaaGreatDoorQr
import Derived.Test.YtikkmcchhddfoaaGreatDoorNb
set_option linter.all false
namespace Go.Proofs.YtikkmcchhddfoaaGreatDoor.KM
open Go
namespace D0
/- interleave/event.Int -/
def lp171_0 : AC := .seq (.reg [] [o 12 (.bin .lss (.t 11) (.t 10))]) (.seq (.cond (.t 12) [12] (.skip) (.exit 0)) (.seq (.blk 1 (.seq (.reg [13, 14, 15] [o 13 (.mov (.t 11)), o 14 (.iad 1 (.t 9) (.t 11)), o 15 (.load 1 true (.t 14)), o 6 (.mov (.t 13)), o 7 (.mov (.t 15))]) (.seq (.seq (.reg [16, 17, 18, 19, 20] [o 16 (.mov (.t 6)), o 17 (.bin .eql (.t 16) (.k (.int .i64 9))), o 18 (.mov (.t 17)), og 19 (.mov (.t 7)) 18 true, og 20 (.bin .gtr (.t 19) (.k (.int .u8 1))) 18 true, o 21 (.pick (.t 18) (.t 20) (.k (.bool false)))]) (.cond (.t 21) [21] (.seq (.reg [] [o 2 (.mov (.k (.int .i64 0))), o 3 (.mov (.k (.int .i64 0))), o 4 (.mov (.k (.int .i64 11)))]) (.ret)) (.skip))) (.seq (.reg [22, 23, 24, 25, 26, 27, 28, 29] [o 22 (.mov (.t 5)), o 23 (.mov (.t 7)), o 24 (.bin .and (.t 23) (.k (.int .u8 127))), o 25 (.cvi .u64 (.t 24)), o 26 (.mov (.t 6)), o 27 (.bin .mul (.k (.int .i64 7)) (.t 26)), o 28 (.bin .shl (.t 25) (.t 27)), o 29 (.bin .or (.t 22) (.t 28)), o 5 (.mov (.t 29))]) (.seq (.seq (.reg [30] [o 30 (.mov (.t 7)), o 31 (.bin .geq (.t 30) (.k (.int .u8 128)))]) (.cond (.t 31) [31] (.exit 1) (.skip))) (.seq (.seq (.reg [7, 32, 33, 34, 35, 36] [o 32 (.mov (.t 7)), o 33 (.bin .eql (.t 32) (.k (.int .u8 0))), o 34 (.mov (.t 33)), og 35 (.mov (.t 6)) 34 true, og 36 (.bin .gtr (.t 35) (.k (.int .i64 0))) 34 true, o 37 (.pick (.t 34) (.t 36) (.k (.bool false)))]) (.cond (.t 37) [37] (.seq (.reg [] [o 2 (.mov (.k (.int .i64 0))), o 3 (.mov (.k (.int .i64 0))), o 4 (.mov (.k (.int .i64 11)))]) (.ret)) (.skip))) (.seq (.reg [38, 39, 40] [o 38 (.mov (.t 5)), o 39 (.bin .shr (.t 38) (.k (.int .u64 1))), o 40 (.cvi .i64 (.t 39)), o 8 (.mov (.t 40))]) (.seq (.seq (.reg [5, 41, 42] [o 41 (.mov (.t 5)), o 42 (.bin .and (.t 41) (.k (.int .u64 1))), o 43 (.bin .neq (.t 42) (.k (.int .u64 0)))]) (.cond (.t 43) [43] (.reg [44, 45, 46] [o 44 (.mov (.t 8)), o 45 (.un .neg (.t 44)), o 46 (.bin .sub (.t 45) (.k (.int .i64 1))), o 8 (.mov (.t 46))]) (.skip))) (.seq (.reg [6, 8, 47, 48, 49] [o 47 (.mov (.t 8)), o 48 (.mov (.t 6)), o 49 (.bin .add (.t 48) (.k (.int .i64 1))), o 2 (.mov (.t 47)), o 3 (.mov (.t 49)), o 4 (.mov (.k (.int .i64 0)))]) (.ret)))))))))) (.reg [50] [o 50 (.bin .add (.t 11) (.k (.int .i64 1))), o 11 (.mov (.t 50))])))
def af171 : AF := ⟨1, [.tmp 2, .tmp 3, .tmp 4], false, .seq (.reg [2, 3, 4] [o 2 (.mov (.k (.int .i64 0))), o 3 (.mov (.k (.int .i64 0))), o 4 (.mov (.k (.int .i64 0)))]) (.seq (.reg [] [o 5 (.mov (.k (.int .u64 0)))]) (.seq (.seq (.reg [0] [o 9 (.mov (.t 0)), o 10 (.len (.t 9)), o 11 (.mov (.k (.int .i64 0)))]) (.blk 0 (.loop [5, 9, 10, 11] lp171_0))) (.seq (.reg [] [o 2 (.mov (.k (.int .i64 0))), o 3 (.mov (.k (.int .i64 0))), o 4 (.mov (.k (.int .i64 9)))]) (.ret)))), none⟩
/- (*interleave/baseline.reader).number -/
def af122 : AF := ⟨2, [.tmp 4], true, .seq (.reg [4] [o 4 (.mov (.k (.int .i64 0)))]) (.seq (.reg [8, 9, 10, 11, 12, 13, 14, 15, 16] [o 9 (.mov (.t 0)), o 10 (.chk (.t 9)), o 11 (.fad 0 (.t 10)), o 12 (.load 1 true (.t 11)), o 13 (.call 171 [(.t 12)]), o 8 (.mov (.t 13)), o 14 (.ext 0 (.t 8)), o 15 (.ext 1 (.t 8)), o 16 (.ext 2 (.t 8)), o 5 (.mov (.t 14)), o 6 (.mov (.t 15)), o 7 (.mov (.t 16))]) (.seq (.seq (.reg [1, 7, 17, 18, 19, 20, 21, 22, 23, 24, 25, 26] [o 17 (.mov (.t 7)), o 18 (.bin .neq (.t 17) (.k (.int .i64 0))), o 19 (.mov (.t 18)), og 20 (.mov (.t 5)) 19 false, og 21 (.bin .lss (.t 20) (.k (.int .i64 0))) 19 false, o 22 (.pick (.t 19) (.k (.bool true)) (.t 21)), o 23 (.mov (.t 22)), og 24 (.mov (.t 5)) 23 false, og 25 (.mov (.t 1)) 23 false, og 26 (.bin .gtr (.t 24) (.t 25)) 23 false, o 27 (.pick (.t 23) (.k (.bool true)) (.t 26))]) (.cond (.t 27) [27] (.reg [28] [o 28 (.call 121 [])]) (.skip))) (.seq (.reg [0, 6, 29, 30, 31, 32, 33, 34, 35, 36, 37] [o 29 (.mov (.t 0)), o 30 (.mov (.t 0)), o 31 (.chk (.t 30)), o 32 (.fad 0 (.t 31)), o 33 (.load 1 true (.t 32)), o 34 (.mov (.t 6)), o 35 (.slc 1 (.t 33) (some (.t 34)) none none), o 36 (.chk (.t 29)), o 37 (.fad 0 (.t 36)), on (.store 1 (.t 37) (.t 35))]) (.seq (.reg [5, 38] [o 38 (.mov (.t 5)), o 4 (.mov (.t 38))]) (.ret))))), none⟩
/- (*interleave/baseline.reader).text -/
def af123 : AF := ⟨2, [.tmp 4], true, .seq (.reg [4] [o 4 (.mov (.k (.str [])))]) (.seq (.reg [1, 7, 8, 9] [o 7 (.mov (.t 0)), o 8 (.mov (.t 1)), o 9 (.call 122 [(.t 7), (.t 8)]), o 5 (.mov (.t 9))]) (.seq (.seq (.reg [10, 11, 12, 13, 14, 15] [o 10 (.mov (.t 5)), o 11 (.mov (.t 0)), o 12 (.chk (.t 11)), o 13 (.fad 0 (.t 12)), o 14 (.load 1 true (.t 13)), o 15 (.len (.t 14)), o 16 (.bin .gtr (.t 10) (.t 15))]) (.cond (.t 16) [16] (.reg [17] [o 17 (.call 121 [])]) (.skip))) (.seq (.reg [18, 19, 20, 21, 22, 23, 24] [o 18 (.mov (.t 0)), o 19 (.chk (.t 18)), o 20 (.fad 0 (.t 19)), o 21 (.load 1 true (.t 20)), o 22 (.mov (.t 5)), o 23 (.slc 1 (.t 21) none (some (.t 22)) none), o 24 (.bts (.t 23)), o 6 (.mov (.t 24))]) (.seq (.reg [0, 5, 25, 26, 27, 28, 29, 30, 31, 32, 33] [o 25 (.mov (.t 0)), o 26 (.mov (.t 0)), o 27 (.chk (.t 26)), o 28 (.fad 0 (.t 27)), o 29 (.load 1 true (.t 28)), o 30 (.mov (.t 5)), o 31 (.slc 1 (.t 29) (some (.t 30)) none none), o 32 (.chk (.t 25)), o 33 (.fad 0 (.t 32)), on (.store 1 (.t 33) (.t 31))]) (.seq (.reg [6, 34] [o 34 (.mov (.t 6)), o 4 (.mov (.t 34))]) (.ret)))))), none⟩
/- interleave/baseline.decodeBody, without its deferred call -/
def lp69_0 : AC := .seq (.reg [] [o 27 (.bin .lss (.t 26) (.t 25))]) (.seq (.cond (.t 27) [27] (.skip) (.exit 2)) (.seq (.blk 3 (.seq (.reg [28, 29] [o 28 (.call 122 [(.t 4), (.k (.int .i64 59))]), o 29 (.build [.str [], .str [], .int .i64 0] [(2, 1, (.t 28))]), o 6 (.new 52 [.str [], .str [], .int .i64 0]), on (.store 3 (.t 6) (.t 29))]) (.seq (.reg [30, 31] [o 30 (.call 123 [(.t 4), (.k (.int .i64 12))]), o 31 (.fad 0 (.t 6)), on (.store 1 (.t 31) (.t 30))]) (.seq (.reg [32, 33] [o 32 (.call 123 [(.t 4), (.k (.int .i64 1000))]), o 33 (.fad 1 (.t 6)), on (.store 1 (.t 33) (.t 32))]) (.reg [6, 34, 35, 36, 37, 38, 39] [o 34 (.fad 1 (.t 5)), o 35 (.load 1 true (.t 34)), o 36 (.load 3 false (.t 6)), o 37 (.rows 1 [.str [], .str [], .int .i64 0] [(0, (.t 36))]), o 38 (.app 40 (3, 52) (.t 35) (.t 37)), o 39 (.fad 1 (.t 5)), on (.store 1 (.t 39) (.t 38))]))))) (.reg [40] [o 40 (.bin .add (.t 26) (.k (.int .i64 1))), o 26 (.mov (.t 40))])))
def lp69_1 : AC := .seq (.reg [] [o 20 (.bin .lss (.t 19) (.t 18))]) (.seq (.cond (.t 20) [20] (.skip) (.exit 0)) (.seq (.blk 1 (.seq (.reg [21, 22, 23, 24] [o 21 (.call 122 [(.t 4), (.k (.int .i64 4))]), o 22 (.call 122 [(.t 4), (.k (.int .i64 1073741824))]), o 23 (.call 122 [(.t 4), (.k (.int .i64 7))]), o 24 (.build [.int .i64 0, .nils, .int .i64 0, .int .i64 0] [(0, 1, (.t 21)), (2, 1, (.t 22)), (3, 1, (.t 23))]), o 5 (.new 139 [.int .i64 0, .nils, .int .i64 0, .int .i64 0]), on (.store 4 (.t 5) (.t 24))]) (.seq (.seq (.reg [] [o 25 (.call 122 [(.t 4), (.k (.int .i64 4))]), o 26 (.mov (.k (.int .i64 0)))]) (.blk 2 (.loop [2, 3, 4, 5, 18, 19, 25, 26] lp69_0))) (.reg [5, 41, 42, 43, 44, 45, 46] [o 41 (.fad 1 (.t 2)), o 42 (.load 1 true (.t 41)), o 43 (.load 4 false (.t 5)), o 44 (.rowf 1 [.int .i64 0, .nils, .int .i64 0, .int .i64 0] [(0, (.t 43))]), o 45 (.app 48 (4, 139) (.t 42) (.t 44)), o 46 (.fad 1 (.t 2)), on (.store 1 (.t 46) (.t 45))])))) (.reg [47] [o 47 (.bin .add (.t 19) (.k (.int .i64 1))), o 19 (.mov (.t 47))])))
def af69 : AF := ⟨1, [.cell 2 2 false, .cell 3 1 true], false, .seq (.reg [] [o 2 (.new 61 [.int .i64 0, .nils]), o 3 (.new 4 [.bool false])]) (.seq (.seq (.reg [8, 9, 10] [o 8 (.mov (.t 0)), o 9 (.slc 1 (.t 8) none (some (.k (.int .i64 4))) none), o 10 (.bts (.t 9)), o 11 (.bin .neq (.t 10) (.k (.str [73, 66, 76, 49])))]) (.cond (.t 11) [11] (.reg [12] [o 12 (.call 121 [])]) (.skip))) (.seq (.reg [0, 13, 14, 15] [o 13 (.mov (.t 0)), o 14 (.slc 1 (.t 13) (some (.k (.int .i64 4))) none none), o 15 (.build [.nils] [(0, 1, (.t 14))]), o 4 (.new 197 [.nils]), on (.store 1 (.t 4) (.t 15))]) (.seq (.reg [16, 17] [o 16 (.call 122 [(.t 4), (.k (.int .i64 1073741824))]), o 17 (.fad 0 (.t 2)), on (.store 1 (.t 17) (.t 16))]) (.seq (.seq (.reg [] [o 18 (.call 122 [(.t 4), (.k (.int .i64 64))]), o 19 (.mov (.k (.int .i64 0)))]) (.blk 0 (.loop [2, 3, 4, 18, 19] lp69_1))) (.seq (.reg [48] [o 48 (.load 2 false (.t 2)), on (.store 2 (.t 2) (.t 48)), on (.store 1 (.t 3) (.k (.bool true)))]) (.ret)))))), none⟩
/- what the deferred call stores -/
def af120 : AF := ⟨4, [], true, .reg [0, 1, 4] [o 4 (.build [.int .i64 0, .nils] []), on (.store 2 (.t 0) (.t 4)), on (.store 1 (.t 1) (.k (.bool false)))], none⟩
def tab : List (Nat × AF) := [(171, af171), (122, af122), (123, af123)]
def T0 (f : Nat) : Option AF := tab.lookup f
def P0 (_ : Nat) : Option (List V → Option V) := none
def pan (f : Nat) : Bool := f == 121
theorem T171 : T0 171 = some af171 := by rfl
theorem T122 : T0 122 = some af122 := by rfl
theorem T123 : T0 123 = some af123 := by rfl
theorem ok171 : okF Tryz.prog [] 171 af171 = true := by kernel_rfl
theorem ok122 : okF Tryz.prog [] 122 af122 = true := by kernel_rfl
theorem ok123 : okF Tryz.prog [] 123 af123 = true := by kernel_rfl
theorem hT0 : ∀ f F, T0 f = some F → F.spec = none → okF Tryz.prog [] f F = true := by
  intro f F h _
  unfold T0 tab at h
  simp only [List.lookup_cons, List.lookup_nil] at h
  split at h
  · rename_i he; cases h; rw [eq_of_beq he]; exact ok171
  · split at h
    · rename_i he; cases h; rw [eq_of_beq he]; exact ok122
    · split at h
      · rename_i he; cases h; rw [eq_of_beq he]; exact ok123
      · cases h
theorem hS0 : ∀ f F s, T0 f = some F → F.spec = some s → ThrOk Tryz.prog [] f s := by
  intro f F s h hs
  unfold T0 tab at h
  simp only [List.lookup_cons, List.lookup_nil] at h
  split at h
  · cases h; cases hs
  · split at h
    · cases h; cases hs
    · split at h
      · cases h; cases hs
      · cases h
theorem hP0 : ∀ f s, P0 f = some s → PrimOk Tryz.prog [] f s := by
  intro f s h
  cases h
end D0
end Go.Proofs.YtikkmcchhddfoaaGreatDoor.KM
