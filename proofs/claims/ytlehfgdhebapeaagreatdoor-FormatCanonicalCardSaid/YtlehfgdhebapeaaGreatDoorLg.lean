/- Walks: the scanner's words, numbers and signs. -/
import Derived.Test.YtlehfgdhebapeaaGreatDoorLd
import Derived.Test.YtlehfgdhebapeaaGreatDoorNu
set_option linter.all false
namespace Go.Proofs.YtlehfgdhebapeaaGreatDoor.KM
open Go
theorem Am1:((List.range 256).all fun i=>match (H6 (J2 TT PT 300) af117 [.int .u8 (i:Int)] []).bind fun p=>Er p.2 p.1 with
  | some (.bool b)=>b==Po i
  | _=>false)=true:=by kernel_rfl
theorem K0(c:UInt8):Fn TT PT 117 [.int .u8 (c.toNat:Int)] (.bool (E7 c)):=by
 have hr:=A5.1 Am1 c.toNat (Ew.2 c.toNat_lt)
 split at hr
 ·rename_i b hv
  rw[show E7 c=b from(beq_iff_eq.1 hr).symm]
  exact Q3 Sb T117 rfl rfl hv
 ·cases hr
theorem Am2:((List.range 256).all fun i=>match (H6 (J2 TT PT 300) af119 [.int .u8 (i:Int)] []).bind fun p=>Er p.2 p.1 with
  | some (.bool b)=>b==Og i
  | _=>false)=true:=by kernel_rfl
theorem M4(c:UInt8):Fn TT PT 119 [.int .u8 (c.toNat:Int)] (.bool (C4 c)):=by
 have hr:=A5.1 Am2 c.toNat (Ew.2 c.toNat_lt)
 split at hr
 ·rename_i b hv
  rw[show C4 c=b from(beq_iff_eq.1 hr).symm]
  exact Q3 Sb T119 rfl rfl hv
 ·cases hr
theorem Ut{p:UInt8->Bool}:∀ l:List UInt8,(∀ i,i<(l.takeWhile p).length->∃ x,l[i]?=some x/\p x=true)/\((l.takeWhile p).length<l.length->∃ x,l[(l.takeWhile p).length]?=some x/\p x=false)/\(l.takeWhile p).length<=l.length/\l.take (l.takeWhile p).length=l.takeWhile p
 | []=>⟨fun i h=>by simp at h,fun h=>by simp at h,by simp,rfl⟩
 | c::l=>by
  obtain⟨h1,h2,h3,h4⟩:=Ut (p:=p) l
  rw[P0]
  by_cases hc:p c=true
  ·rw[if_pos hc]
   refine⟨fun i hi=>?_,fun h=>?_,by simp;omega,by simp[h4]⟩
   ·cases i with
    | zero=>exact⟨c,rfl,hc⟩
    | succ i=>simpa using h1 i (by simp at hi;omega)
   ·simpa using h2 (by simp at h;omega)
  ·rw[if_neg hc]
   exact⟨fun i h=>by simp at h,fun _=>⟨c,rfl,by simpa using hc⟩,by simp,rfl⟩
theorem Fk{vs:List V}{σ:St}{v:V}(h:vs.all C2=true)(he:V.tup vs=v):FR (.tup vs) σ v:=he ▸ Jr h
theorem N2(c:UInt8)(n:Nat)(hn:n<256):(((c.toNat:Int))==(n:Int))=(c==UInt8.ofNat n):=by
 by_cases h:c=UInt8.ofNat n
 ·subst h
  simp[UInt8.toNat_ofNat,P8 hn]
 ·have:(c.toNat:Int)≠n:=fun e=>h (by
   have:c.toNat=n:=by omega
   exact UInt8.toNat_inj.1 (by rw[this];simp[UInt8.toNat_ofNat,P8 hn]))
  rw[beq_eq_false_iff_ne.2 h,beq_eq_false_iff_ne.2 this]
theorem Aji(c:UInt8):Fx c=(E7 c||(C4 c||c==95)):=by
 unfold Fx Oh E7 C4
 congr 2
 have:=N2 c 95 (by decide)
 rw[show(c==95)=(c==UInt8.ofNat 95) from rfl,<-this]
 by_cases h:c.toNat=95
 ·rw[h];rfl
 ·rw[beq_eq_false_iff_ne.2 h]
  exact(beq_eq_false_iff_ne.2 (by omega)).symm
theorem nn(i:Nat):(0<=(i:Int))=True:=eq_true (Int.natCast_nonneg i)
theorem Aj2(s:List UInt8)(i:Nat)(h:i<=s.length):N8 (.str s) none (some (.int .i64 (i:Int)))=some (.str (s.take i)):=by
 rw[show N8 (.str s) none (some (.int .i64 (i:Int)))=(Ea none 0).bind fun a=>(Ea (some (.int .i64 (i:Int))) s.length).bind fun b=>if a<=b/\b<=s.length then some (V.str ((s.take b).drop a)) else none from rfl]
 have e:Ea (some (.int .i64 (i:Int))) s.length=some i:=by simp[Ea]
 rw[e]
 simp only[Ea,Cc]
 rw[if_pos ⟨Bj _,h⟩,Vg]
set_option maxHeartbeats 2000000 in
theorem Asg(c:UInt8)(r:List UInt8)(hl:(c::r).length<=4096):Fn TT PT 118 [.str (c::r)] (if 12<(Dq c r).length then .tup [.agg (Tk.row Tk.zero),.int .i64 2] else .tup [.agg (Tk.row ⟨if G0 (Dq c r) then 3 else 1,Dq c r,0⟩),.int .i64 0]):=by
 obtain⟨w1,w2,w3,w4⟩:=Ut (p:=Fx) r
 have hW:(c::r).take (Dq c r).length=Dq c r:=by simp[Dq,w4]
 have hWl:(Dq c r).length=(r.takeWhile Fx).length+1:=by simp[Dq]
 rw[Ag]at hl
 generalize hn:(Dq c r).length=n at hW hWl ⊢
 refine Bz T118 rfl ?_
 simp only[go_sem]
 refine En (α:=Nat) (fun i=>n - i) (fun i=>[(0,.str (c::r)),(2,.ptr 0 0 0),(4,.int .i64 (i:Int))]) (fun _=>[.row [.int .i64 0,.str [],.int .i64 0] 145 0 0]) (fun i=>1<=i/\i<=n) ?_ 1 ⟨by omega,by omega⟩
 rintro i ⟨h1,h2⟩ ih
 refine Eo (by delta lp118_0;exact rfl) ?_
 by_cases hi:i<n
 ·obtain⟨x,x1,x2⟩:=w1 (i - 1) (by omega)
  have x3:(c::r)[i]?=some x:=by
   obtain⟨j,rfl⟩:∃ j,i=j+1:=⟨i - 1,by omega⟩
   simpa using x1
  have g1:decide ((i:Int)<((r.length+1:Nat):Int))=true:=by simp;omega
  have e95:((x.toNat:Int)==95)=(x==95):=N2 x 95 (by decide)
  have lt1:=Hs (show i<r.length+1 by omega)
  have hin:=Cr (show i<9223372036854775807 by omega)
  rw[Aji]at x2
  by_cases hL:E7 x=true
  ·simp only[go_sem,lt1,nn,x3]
   refine Ax (K0 x) (by simp only[go_sem]) ?_
   simp only[go_sem,hL,hin]
   exact C5 (ih (i+1) (by omega) (by omega)) rfl
  ·have hL:E7 x=false:=by simpa using hL
   by_cases hD:C4 x=true
   ·simp only[go_sem,lt1,nn,x3]
    refine Ax (K0 x) (by simp only[go_sem]) ?_
    simp only[go_sem,hL,nn,x3]
    refine Ax (M4 x) (by simp only[go_sem]) ?_
    simp only[go_sem,hD,hin]
    exact C5 (ih (i+1) (by omega) (by omega)) rfl
   ·have hD:C4 x=false:=by simpa using hD
    rw[hL,hD]at x2
    simp only[Sq]at x2
    simp only[go_sem,lt1,nn,x3]
    refine Ax (K0 x) (by simp only[go_sem]) ?_
    simp only[go_sem,hL,nn,x3]
    refine Ax (M4 x) (by simp only[go_sem]) ?_
    simp only[go_sem,hD,nn,x3,e95,x2,hin]
    exact C5 (ih (i+1) (by omega) (by omega)) rfl
 ·obtain rfl:i=n:=by omega
  have gi:(i<=r.length+1)=True:=eq_true (by omega)
  have hcut:N8 (.str (c::r)) none (some (.int .i64 (i:Int)))=some (.str (Dq c r)):=by
   rw[Aj2 _ _ (by simp;omega),hW]
  by_cases hb:i<r.length+1
  ·obtain⟨x,x1,x2⟩:=w2 (by omega)
   have x3:(c::r)[i]?=some x:=by rw[hWl];simpa using x1
   have e95:((x.toNat:Int)==95)=(x==95):=N2 x 95 (by decide)
   have lt1:=Hs (show i<r.length+1 by omega)
   rw[Aji]at x2
   simp only[Yq]at x2
   obtain⟨hL,hD,h9⟩:=x2
   simp only[go_sem,lt1,nn,x3]
   refine Ax (K0 x) (by simp only[go_sem]) ?_
   simp only[go_sem,hL,nn,x3]
   refine Ax (M4 x) (by simp only[go_sem]) ?_
   simp only[go_sem,hD,nn,x3,e95,h9]
   by_cases h12:12<i
   ·have f12:decide ((12:Int)<(i:Int))=true:=by simp;omega
    rw[if_pos h12]
    simp only[go_sem,gt_iff_lt,f12]
    exact Fk (by simp only[go_sem]) rfl
   ·have f12:decide ((12:Int)<(i:Int))=false:=by simp;omega
    rw[if_neg h12]
    simp only[go_sem,gt_iff_lt,f12,nn,gi,hW,Bj,true_and,if_true,Cc]
    refine Ef P159 rfl (by rfl) ?_
    cases hk:G0 (Dq c r)
    ·simp only[go_sem,hk,nn,gi,hW,Bj,true_and,if_true,Cc]
     exact Fk (by simp only[go_sem]) rfl
    ·simp only[go_sem,hk,nn,gi,hW,Bj,true_and,if_true,Cc]
     exact Fk (by simp only[go_sem]) rfl
  ·simp only[go_sem,Is (show r.length+1<=i by omega)]
   by_cases h12:12<i
   ·have f12:decide ((12:Int)<(i:Int))=true:=by simp;omega
    rw[if_pos h12]
    simp only[go_sem,gt_iff_lt,f12]
    exact Fk (by simp only[go_sem]) rfl
   ·have f12:decide ((12:Int)<(i:Int))=false:=by simp;omega
    rw[if_neg h12]
    simp only[go_sem,gt_iff_lt,f12,nn,gi,hW,Bj,true_and,if_true,Cc]
    refine Ef P159 rfl (by rfl) ?_
    cases hk:G0 (Dq c r)
    ·simp only[go_sem,hk,nn,gi,hW,Bj,true_and,if_true,Cc]
     exact Fk (by simp only[go_sem]) rfl
    ·simp only[go_sem,hk,nn,gi,hW,Bj,true_and,if_true,Cc]
     exact Fk (by simp only[go_sem]) rfl
end Go.Proofs.YtlehfgdhebapeaaGreatDoor.KM
