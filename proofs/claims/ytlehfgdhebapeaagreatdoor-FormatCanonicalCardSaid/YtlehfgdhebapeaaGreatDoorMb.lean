/- Walks: long texts that are spoilt. -/
import Derived.Test.YtlehfgdhebapeaaGreatDoorGa
set_option linter.all false
namespace Go.Proofs.YtlehfgdhebapeaaGreatDoor.KM
open Go
theorem X4(a b:Nat):(a:Int).tmod (b:Int)=((a % b:Nat):Int):=(Int.ofNat_tmod a b).symm
theorem Al5(k:IntKind)(n d:Nat):Ea (some (.int k (n:Int))) d=some n:=by
 simp only[Ea]
 rw[if_pos (by omega),Sj]
attribute [go_sem ↓] Al5
attribute [go_sem] Nat.sub_zero Bj Int.natCast_nonneg
theorem Ane(s:List UInt8)(at' how c:Nat)(hs:s.length<=100000000000)(hat:at'<65536)(hc:c<256):
  ∃ t,Fn TT PT 12 [.str s,.int .u16 at',.int .u16 how,.int .u8 c] (.str t)/\t.length<=2*s.length+1:=by
 have hb:Hw [[V.int .u8 (c:Int)]]=some [UInt8.ofNat c]:=by
  simp[Hw]
  omega
 cases he:(s==[])
 rotate_left
 ·refine⟨[UInt8.ofNat c],Bz T12 rfl ?_,by simp⟩
  simp only[go_sem,Int.reduceEq,he,hb]
  exact E6 rfl
 have he':s≠[]:=by simpa using he
 have hp:0<s.length:=Ys.2 he'
 have hz:((s.length:Int)=0)=False:=eq_false (by omega)
 have hi:at' % s.length<s.length:=Lw _ hp
 have w1:IntKind.i64.wrap (at':Int)=at':=B3 (by omega)
 have r1:=X4 at' s.length
 generalize at' % s.length=i at hi r1
 have i1:=Cr (show i<9223372036854775807 by omega)
 have g1:(i<=s.length)=True:=eq_true (by omega)
 have g2:(i+1<=s.length)=True:=eq_true (by omega)
 have l1:(s.take i).length<=s.length:=by simp;omega
 have l2:(s.drop i).length<=s.length:=by simp
 have l3:(s.drop (i+1)).length+(s.take i).length+1=s.length:=by simp;omega
 have l4:(s.drop i).length+(s.take i).length=s.length:=by simp;omega
 generalize hA:s.take i=A at l1 l3 l4
 generalize hB:s.drop i=B at l2 l4
 generalize hC:s.drop (i+1)=C at l3
 have k1:(A.length+1<=9223372036854775807)=True:=eq_true (by omega)
 have k2:(A.length+1+C.length<=9223372036854775807)=True:=eq_true (by omega)
 have k3:(A.length+1+B.length<=9223372036854775807)=True:=eq_true (by omega)
 have k4:(A.length+C.length<=9223372036854775807)=True:=eq_true (by omega)
 have k5:(s.length+B.length<=9223372036854775807)=True:=eq_true (by omega)
 have t6:(how:Int).tmod 6=((how % 6:Nat):Int):=X4 how 6
 have h6:how % 6=0\/how % 6=1\/how % 6=2\/how % 6=3\/how % 6=4\/how % 6=5:=by omega
 rcases h6 with h6 | h6 | h6 | h6 | h6 | h6
 ·have r6:(how:Int).tmod 6=0:=by rw[t6,h6];rfl
  refine⟨A++[UInt8.ofNat c]++C,Bz T12 rfl ?_,by simp;omega⟩
  simp only[go_sem,Int.reduceEq,he,hz,w1,r1,r6,Int.reduceBEq,g1,g2,hA,hB,hC,k5,Af,Dg]
  refine A2 (by kernel_rfl) ?_
  simp only[go_sem,Int.reduceEq,hb,i1,g1,g2,hA,hB,hC,k1,k2,k3,k4,k5,Af,Dg,Al,Ag,Br]
  exact E6 rfl
 ·have r6:(how:Int).tmod 6=1:=by rw[t6,h6];rfl
  refine⟨A++[UInt8.ofNat c]++B,Bz T12 rfl ?_,by simp;omega⟩
  simp only[go_sem,Int.reduceEq,he,hz,w1,r1,r6,Int.reduceBEq,g1,g2,hA,hB,hC,k5,Af,Dg]
  refine A2 (by kernel_rfl) ?_
  simp only[go_sem,Int.reduceEq,hb,i1,g1,g2,hA,hB,hC,k1,k2,k3,k4,k5,Af,Dg,Al,Ag,Br]
  exact E6 rfl
 ·have r6:(how:Int).tmod 6=2:=by rw[t6,h6];rfl
  refine⟨A++C,Bz T12 rfl ?_,by simp;omega⟩
  simp only[go_sem,Int.reduceEq,he,hz,w1,r1,r6,Int.reduceBEq,g1,g2,hA,hB,hC,k5,Af,Dg]
  refine A2 (by kernel_rfl) ?_
  simp only[go_sem,Int.reduceEq,hb,i1,g1,g2,hA,hB,hC,k1,k2,k3,k4,k5,Af,Dg,Al,Ag,Br]
  exact E6 rfl
 ·have r6:(how:Int).tmod 6=3:=by rw[t6,h6];rfl
  refine⟨A,Bz T12 rfl ?_,by omega⟩
  simp only[go_sem,Int.reduceEq,he,hz,w1,r1,r6,Int.reduceBEq,g1,g2,hA,hB,hC,k5,Af,Dg]
  exact E6 rfl
 ·have r6:(how:Int).tmod 6=4:=by rw[t6,h6];rfl
  refine⟨s++B,Bz T12 rfl ?_,by simp;omega⟩
  simp only[go_sem,Int.reduceEq,he,hz,w1,r1,r6,Int.reduceBEq,g1,g2,hA,hB,hC,k5,Af,Dg]
  exact E6 rfl
 ·have r6:(how:Int).tmod 6=5:=by rw[t6,h6];rfl
  refine⟨s,Bz T12 rfl ?_,by omega⟩
  simp only[go_sem,Int.reduceEq,he,hz,w1,r1,r6,Int.reduceBEq,g1,g2,hA,hB,hC,k5,Af,Dg]
  exact E6 rfl
end Go.Proofs.YtlehfgdhebapeaaGreatDoor.KM
