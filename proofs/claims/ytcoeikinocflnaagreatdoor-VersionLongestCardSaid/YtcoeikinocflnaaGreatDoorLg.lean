/- Walks: the scanner's words, numbers and signs. -/
import Derived.Test.YtcoeikinocflnaaGreatDoorLd
import Derived.Test.YtcoeikinocflnaaGreatDoorNu
set_option linter.all false
namespace Go.Proofs.YtcoeikinocflnaaGreatDoor.KM
open Go
theorem An9:((List.range 256).all fun i=>match (Il (Le TT PT 300) af114 [.int .u8 (i:Int)] []).bind fun p=>Ef p.2 p.1 with
  | some (.bool b)=>b==Nz i
  | _=>false)=true:=by kernel_rfl
theorem J6(c:UInt8):Fn TT PT 114 [.int .u8 (c.toNat:Int)] (.bool (E9 c)):=by
 have hr:=A3.1 An9 c.toNat (Ej.2 c.toNat_lt)
 split at hr
 ·rename_i b hv
  rw[show E9 c=b from(beq_iff_eq.1 hr).symm]
  exact Tt Vb T114 rfl rfl hv
 ·cases hr
theorem Aoa:((List.range 256).all fun i=>match (Il (Le TT PT 300) af116 [.int .u8 (i:Int)] []).bind fun p=>Ef p.2 p.1 with
  | some (.bool b)=>b==Mb i
  | _=>false)=true:=by kernel_rfl
theorem Mw(c:UInt8):Fn TT PT 116 [.int .u8 (c.toNat:Int)] (.bool (C1 c)):=by
 have hr:=A3.1 Aoa c.toNat (Ej.2 c.toNat_lt)
 split at hr
 ·rename_i b hv
  rw[show C1 c=b from(beq_iff_eq.1 hr).symm]
  exact Tt Vb T116 rfl rfl hv
 ·cases hr
theorem Uv{p:UInt8->Bool}:∀ l:List UInt8,(∀ i,i<(l.takeWhile p).length->∃ x,l[i]?=some x/\p x=true)/\((l.takeWhile p).length<l.length->∃ x,l[(l.takeWhile p).length]?=some x/\p x=false)/\(l.takeWhile p).length<=l.length/\l.take (l.takeWhile p).length=l.takeWhile p
 | []=>⟨fun i h=>by simp at h,fun h=>by simp at h,by simp,rfl⟩
 | c::l=>by
  obtain⟨h1,h2,h3,h4⟩:=Uv (p:=p) l
  rw[Px]
  by_cases hc:p c=true
  ·rw[if_pos hc]
   refine⟨fun i hi=>?_,fun h=>?_,by simp;omega,by simp[h4]⟩
   ·cases i with
    | zero=>exact⟨c,rfl,hc⟩
    | succ i=>simpa using h1 i (by simp at hi;omega)
   ·simpa using h2 (by simp at h;omega)
  ·rw[if_neg hc]
   exact⟨fun i h=>by simp at h,fun _=>⟨c,rfl,by simpa using hc⟩,by simp,rfl⟩
theorem E6{vs:List V}{σ:St}{v:V}(h:vs.all Dj=true)(he:V.tup vs=v):FR (.tup vs) σ v:=he ▸ Jq h
theorem Nn(c:UInt8)(n:Nat)(hn:n<256):(((c.toNat:Int))==(n:Int))=(c==UInt8.ofNat n):=by
 by_cases h:c=UInt8.ofNat n
 ·subst h
  simp[UInt8.toNat_ofNat,P2 hn]
 ·have:(c.toNat:Int)≠n:=fun e=>h (by
   have:c.toNat=n:=by omega
   exact UInt8.toNat_inj.1 (by rw[this];simp[UInt8.toNat_ofNat,P2 hn]))
  rw[beq_eq_false_iff_ne.2 h,beq_eq_false_iff_ne.2 this]
theorem Aj5(c:UInt8):F6 c=(E9 c||(C1 c||c==95)):=by
 unfold F6 N0 E9 C1
 congr 2
 have:=Nn c 95 (by decide)
 rw[show(c==95)=(c==UInt8.ofNat 95) from rfl,<-this]
 by_cases h:c.toNat=95
 ·rw[h];rfl
 ·rw[beq_eq_false_iff_ne.2 h]
  exact(beq_eq_false_iff_ne.2 (by omega)).symm
theorem nn(i:Nat):(0<=(i:Int))=True:=eq_true (Int.natCast_nonneg i)
theorem Akt(s:List UInt8)(i:Nat)(h:i<=s.length):Nv (.str s) none (some (.int .i64 (i:Int)))=some (.str (s.take i)):=by
 rw[show Nv (.str s) none (some (.int .i64 (i:Int)))=(D4 none 0).bind fun a=>(D4 (some (.int .i64 (i:Int))) s.length).bind fun b=>if a<=b/\b<=s.length then some (V.str ((s.take b).drop a)) else none from rfl]
 have e:D4 (some (.int .i64 (i:Int))) s.length=some i:=by simp[D4]
 rw[e]
 simp only[D4,Cd]
 rw[if_pos ⟨A5 _,h⟩,Mm]
set_option maxHeartbeats 2000000 in
theorem At4(c:UInt8)(r:List UInt8)(hl:(c::r).length<=4096):Fn TT PT 115 [.str (c::r)] (if 12<(Dk c r).length then .tup [.agg (Tk.row Tk.zero),.int .i64 2] else .tup [.agg (Tk.row ⟨if Hv (Dk c r) then 3 else 1,Dk c r,0⟩),.int .i64 0]):=by
 obtain⟨w1,w2,w3,w4⟩:=Uv (p:=F6) r
 have hW:(c::r).take (Dk c r).length=Dk c r:=by simp[Dk,w4]
 have hWl:(Dk c r).length=(r.takeWhile F6).length+1:=by simp[Dk]
 rw[Af]at hl
 generalize hn:(Dk c r).length=n at hW hWl ⊢
 refine Ch T115 rfl ?_
 simp only[go_sem]
 refine Cr (α:=Nat) (fun i=>n - i) (fun i=>[(0,.str (c::r)),(2,.ptr 0 0 0),(4,.int .i64 (i:Int))]) (fun _=>[.row [.int .i64 0,.str [],.int .i64 0] 137 0 0]) (fun i=>1<=i/\i<=n) ?_ 1 ⟨by omega,by omega⟩
 rintro i ⟨h1,h2⟩ ih
 refine Ct (by delta lp115_0;exact rfl) ?_
 by_cases hi:i<n
 ·obtain⟨x,x1,x2⟩:=w1 (i - 1) (by omega)
  have x3:(c::r)[i]?=some x:=by
   obtain⟨j,rfl⟩:∃ j,i=j+1:=⟨i - 1,by omega⟩
   simpa using x1
  have g1:decide ((i:Int)<((r.length+1:Nat):Int))=true:=by simp;omega
  have e95:((x.toNat:Int)==95)=(x==95):=Nn x 95 (by decide)
  have lt1:=Cb (show i<r.length+1 by omega)
  have hin:=Bq (show i<9223372036854775807 by omega)
  rw[Aj5]at x2
  by_cases hL:E9 x=true
  ·simp only[go_sem,lt1,nn,x3]
   refine An (J6 x) (by simp only[go_sem]) ?_
   simp only[go_sem,hL,hin]
   exact Bd (ih (i+1) (by omega) (by omega)) rfl
  ·have hL:E9 x=false:=by simpa using hL
   by_cases hD:C1 x=true
   ·simp only[go_sem,lt1,nn,x3]
    refine An (J6 x) (by simp only[go_sem]) ?_
    simp only[go_sem,hL,nn,x3]
    refine An (Mw x) (by simp only[go_sem]) ?_
    simp only[go_sem,hD,hin]
    exact Bd (ih (i+1) (by omega) (by omega)) rfl
   ·have hD:C1 x=false:=by simpa using hD
    rw[hL,hD]at x2
    simp only[P6]at x2
    simp only[go_sem,lt1,nn,x3]
    refine An (J6 x) (by simp only[go_sem]) ?_
    simp only[go_sem,hL,nn,x3]
    refine An (Mw x) (by simp only[go_sem]) ?_
    simp only[go_sem,hD,nn,x3,e95,x2,hin]
    exact Bd (ih (i+1) (by omega) (by omega)) rfl
 ·obtain rfl:i=n:=by omega
  have gi:(i<=r.length+1)=True:=eq_true (by omega)
  have hcut:Nv (.str (c::r)) none (some (.int .i64 (i:Int)))=some (.str (Dk c r)):=by
   rw[Akt _ _ (by simp;omega),hW]
  by_cases hb:i<r.length+1
  ·obtain⟨x,x1,x2⟩:=w2 (by omega)
   have x3:(c::r)[i]?=some x:=by rw[hWl];simpa using x1
   have e95:((x.toNat:Int)==95)=(x==95):=Nn x 95 (by decide)
   have lt1:=Cb (show i<r.length+1 by omega)
   rw[Aj5]at x2
   simp only[Yu]at x2
   obtain⟨hL,hD,h9⟩:=x2
   simp only[go_sem,lt1,nn,x3]
   refine An (J6 x) (by simp only[go_sem]) ?_
   simp only[go_sem,hL,nn,x3]
   refine An (Mw x) (by simp only[go_sem]) ?_
   simp only[go_sem,hD,nn,x3,e95,h9]
   by_cases h12:12<i
   ·have f12:decide ((12:Int)<(i:Int))=true:=by simp;omega
    rw[if_pos h12]
    simp only[go_sem,gt_iff_lt,f12]
    exact E6 (by simp only[go_sem]) rfl
   ·have f12:decide ((12:Int)<(i:Int))=false:=by simp;omega
    rw[if_neg h12]
    simp only[go_sem,gt_iff_lt,f12,nn,gi,hW,A5,true_and,if_true,Cd]
    refine F2 P166 rfl (by rfl) ?_
    cases hk:Hv (Dk c r)
    ·simp only[go_sem,hk,nn,gi,hW,A5,true_and,if_true,Cd]
     exact E6 (by simp only[go_sem]) rfl
    ·simp only[go_sem,hk,nn,gi,hW,A5,true_and,if_true,Cd]
     exact E6 (by simp only[go_sem]) rfl
  ·simp only[go_sem,D5 (show r.length+1<=i by omega)]
   by_cases h12:12<i
   ·have f12:decide ((12:Int)<(i:Int))=true:=by simp;omega
    rw[if_pos h12]
    simp only[go_sem,gt_iff_lt,f12]
    exact E6 (by simp only[go_sem]) rfl
   ·have f12:decide ((12:Int)<(i:Int))=false:=by simp;omega
    rw[if_neg h12]
    simp only[go_sem,gt_iff_lt,f12,nn,gi,hW,A5,true_and,if_true,Cd]
    refine F2 P166 rfl (by rfl) ?_
    cases hk:Hv (Dk c r)
    ·simp only[go_sem,hk,nn,gi,hW,A5,true_and,if_true,Cd]
     exact E6 (by simp only[go_sem]) rfl
    ·simp only[go_sem,hk,nn,gi,hW,A5,true_and,if_true,Cd]
     exact E6 (by simp only[go_sem]) rfl
end Go.Proofs.YtcoeikinocflnaaGreatDoor.KM
