/- Walks: the law of the canonical text. -/
import Derived.Test.YtlehfgdhebapeaaGreatDoorLy
import Derived.Test.YtlehfgdhebapeaaGreatDoorLn
import Derived.Test.YtlehfgdhebapeaaGreatDoorMb
set_option linter.all false
namespace Go.Proofs.YtlehfgdhebapeaaGreatDoor.KM
open Go
theorem six(how:Nat):∃ k:Nat,((how:Int).tmod 7).tmod 6=(k:Int)/\k<6:=by
 refine⟨how % 7 % 6,?_,by omega⟩
 rw[show(how:Int).tmod 7=((how % 7:Nat):Int) from X4 how 7]
 exact X4 _ 6
theorem Alk(z:Bool)(t:Nat)(l:List UInt8)(at' how c:Nat)(hat:at'<65536)(hhow:how<65536)(hc:c<256)(hl:l.length<=9223372036854775807):Fn TT prG 4 [SL z t (Bt l),.int .u16 at',.int .u16 how,.int .u8 c] (.bool true):=by
 refine Bz T4 rfl ?_
 have n1:=Wx l
 by_cases h300:300<l.length
 ·have f1:((300:Int)<(l.length:Int))=True:=eq_true (by omega)
  simp only[go_sem,n1,f1,gt_iff_lt]
  exact A9 rfl rfl
 have f1:((300:Int)<(l.length:Int))=False:=eq_false (by omega)
 obtain⟨p,q1,hsh,hlen,hsz⟩:=Ao1 z t l hl
 have q2:=Jn Nl (Aok (Abi hsh) (by omega))
 have q1:=Jn Nl q1
 have qa:=Jn Nl Am5
 have hpr:=Wo p
 have hps:=Yb p
 rw[hpr]at q1 q2 hps
 obtain⟨hx1,hx2⟩:=Uj hps
 obtain⟨k,hk,hk6⟩:=six how
 obtain⟨b,hb,hb6⟩:∃ b:Nat,([[V.int .u8 32],[V.int .u8 10],[V.int .u8 9],[V.int .u8 59],[V.int .u8 49],[V.int .u8 (c:Int)]]:List (List V))[k]?=some [V.int .u8 (b:Int)]/\b<256:=by
  rcases(show k=0\/k=1\/k=2\/k=3\/k=4\/k=5 by omega) with rfl | rfl | rfl | rfl | rfl | rfl
  ·exact⟨32,rfl,by omega⟩
  ·exact⟨10,rfl,by omega⟩
  ·exact⟨9,rfl,by omega⟩
  ·exact⟨59,rfl,by omega⟩
  ·exact⟨49,rfl,by omega⟩
  ·exact⟨c,rfl,hc⟩
 simp only[go_sem,n1,f1,gt_iff_lt]
 refine A2 (by kernel_rfl) ?_
 simp only[go_sem]
 refine C6 q1 (by simp only[go_sem]) ?_
 simp only[go_sem,hx1,hx2]
 refine C6 q2 (by simp only[go_sem]) ?_
 simp only[go_sem,hk,hb]
 obtain⟨sp,q3,hsp⟩:=Ane (D4 p) at' how b (by omega) hat hb6
 have q3:=Jn Nl q3
 obtain⟨v,q4,hv⟩:=Ag1 sp
 have q4:=Jn Nl q4
 refine C6 q3 (by simp only[go_sem]) ?_
 simp only[go_sem]
 unfold Yk at hv
 cases hpa:Pa sp with
 | none=>
  rw[hpa]at hv
  obtain⟨e,ln,he,rfl⟩:=hv
  have ne:(e != 0)=true:=by simp[he]
  refine Ax q4 (by simp only[go_sem]) ?_
  simp only[go_sem,ne]
  refine Ax qa (by simp only[go_sem]) ?_
  simp only[go_sem]
  exact A9 rfl rfl
 | some g=>
  rw[hpa]at hv
  simp only at hv
  subst hv
  obtain⟨gsh,gl,gz⟩:=Adw hpa
  have hgr:=Wo g
  have hgs:=Yb g
  have q5:=Jn Nl (Agb (Abi gsh) (by omega) fun t ht=>by have:=gz t ht;omega)
  rw[hgr]at q4 hgs q5
  obtain⟨hy1,hy2⟩:=Uj hgs
  refine Ax q4 (by simp only[go_sem]) ?_
  simp only[go_sem,hy1,hy2,bne_self_eq_false]
  refine Ax q5 (by simp only[go_sem]) ?_
  by_cases hbig:4096<(D4 g).length
  ·have f2:((4096:Int)<((D4 g).length:Int))=True:=eq_true (by omega)
   simp only[go_sem,f2,gt_iff_lt]
   refine Ax qa (by simp only[go_sem]) ?_
   simp only[go_sem]
   exact A9 rfl rfl
  have f2:((4096:Int)<((D4 g).length:Int))=False:=eq_false (by omega)
  obtain⟨g',hg',hsame⟩:=Alx Av0 Avz gsh (by omega)
  obtain⟨v,q6,hv⟩:=Ag1 (D4 g)
  unfold Yk at hv
  rw[hg']at hv
  simp only at hv
  subst hv
  obtain⟨gsh',gl',gz'⟩:=Adw hg'
  have q6:=Jn Nl q6
  have q7:=Jn Nl (Agb (Abi gsh') (by omega) fun t ht=>by have:=gz' t ht;omega)
  have hgr':=Wo g'
  have hgs':=Yb g'
  have q8:=Apj (q:=g') gsh (by omega) fun t ht=>by have:=gz t ht;omega
  rw[hsame,hgr,hgr']at q8
  rw[hgr']at q6 q7 hgs'
  rw[<-Am4 hsame]at q7
  obtain⟨hz1,hz2⟩:=Uj hgs'
  simp only[go_sem,f2,gt_iff_lt]
  refine Ax q6 (by simp only[go_sem]) ?_
  simp only[go_sem,hz1,hz2,Int.reduceBEq]
  refine Ef Api (by simp only[go_sem]) q8 ?_
  simp only[go_sem]
  refine Ax q7 (by simp only[go_sem]) ?_
  simp only[go_sem,beq_self_eq_true]
  refine Ax qa (by simp only[go_sem]) ?_
  simp only[go_sem]
  exact A9 rfl rfl
end Go.Proofs.YtlehfgdhebapeaaGreatDoor.KM
