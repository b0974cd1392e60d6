/- Walks: the scanner's words, numbers and signs. -/
import Derived.Test.YtlehfgdhebapeaaGreatDoorLd
import Derived.Test.YtlehfgdhebapeaaGreatDoorNu
set_option linter.all false
namespace Go.Proofs.YtlehfgdhebapeaaGreatDoor.KM
open Go
theorem letr_runs:((List.range 256).all fun i=>match (bodyF (runD TT PT 300) af117 [.int .u8 (i:Int)] []).bind fun p=>back p.2 p.1 with
  | some (.bool b)=>b==letN i
  | _=>false)=true:=by kernel_rfl
theorem letter_fn(c:UInt8):Fn TT PT 117 [.int .u8 (c.toNat:Int)] (.bool (letB c)):=by
 have hr:=List.all_eq_true.1 letr_runs c.toNat (List.mem_range.2 c.toNat_lt)
 split at hr
 ·rename_i b hv
  rw[show letB c=b from(beq_iff_eq.1 hr).symm]
  exact run_fnD hSt T117 rfl rfl hv
 ·cases hr
theorem digr_runs:((List.range 256).all fun i=>match (bodyF (runD TT PT 300) af119 [.int .u8 (i:Int)] []).bind fun p=>back p.2 p.1 with
  | some (.bool b)=>b==digN i
  | _=>false)=true:=by kernel_rfl
theorem digit_fn(c:UInt8):Fn TT PT 119 [.int .u8 (c.toNat:Int)] (.bool (digB c)):=by
 have hr:=List.all_eq_true.1 digr_runs c.toNat (List.mem_range.2 c.toNat_lt)
 split at hr
 ·rename_i b hv
  rw[show digB c=b from(beq_iff_eq.1 hr).symm]
  exact run_fnD hSt T119 rfl rfl hv
 ·cases hr
theorem tw_at{p:UInt8→Bool}:∀ l:List UInt8,(∀ i,i<(l.takeWhile p).length→∃ x,l[i]?=some x∧p x=true)∧((l.takeWhile p).length<l.length→∃ x,l[(l.takeWhile p).length]?=some x∧p x=false)∧(l.takeWhile p).length≤l.length∧l.take (l.takeWhile p).length=l.takeWhile p
 | []=>⟨fun i h=>by simp at h,fun h=>by simp at h,by simp,rfl⟩
 | c::l=>by
  obtain⟨h1,h2,h3,h4⟩:=tw_at (p:=p) l
  rw[List.takeWhile_cons]
  by_cases hc:p c=true
  ·rw[if_pos hc]
   refine⟨fun i hi=>?_,fun h=>?_,by simp;omega,by simp[h4]⟩
   ·cases i with
    | zero=>exact⟨c,rfl,hc⟩
    | succ i=>simpa using h1 i (by simp at hi;omega)
   ·simpa using h2 (by simp at h;omega)
  ·rw[if_neg hc]
   exact⟨fun i h=>by simp at h,fun _=>⟨c,rfl,by simpa using hc⟩,by simp,rfl⟩
theorem fr_tup2{vs:List V}{σ:St}{v:V}(h:vs.all setC=true)(he:V.tup vs=v):FR (.tup vs) σ v:=he ▸ fr_tup h
theorem u8_eq(c:UInt8)(n:Nat)(hn:n<256):(((c.toNat:Int))==(n:Int))=(c==UInt8.ofNat n):=by
 by_cases h:c=UInt8.ofNat n
 ·subst h
  simp[UInt8.toNat_ofNat,Nat.mod_eq_of_lt hn]
 ·have:(c.toNat:Int)≠n:=fun e=>h (by
   have:c.toNat=n:=by omega
   exact UInt8.toNat_inj.1 (by rw[this];simp[UInt8.toNat_ofNat,Nat.mod_eq_of_lt hn]))
  rw[beq_eq_false_iff_ne.2 h,beq_eq_false_iff_ne.2 this]
theorem inn_or(c:UInt8):innB c=(letB c||(digB c||c==95)):=by
 unfold innB innN letB digB
 congr 2
 have:=u8_eq c 95 (by decide)
 rw[show(c==95)=(c==UInt8.ofNat 95) from rfl,←this]
 by_cases h:c.toNat=95
 ·rw[h];rfl
 ·rw[beq_eq_false_iff_ne.2 h]
  exact(beq_eq_false_iff_ne.2 (by omega)).symm
theorem nn(i:Nat):(0≤(i:Int))=True:=eq_true (Int.natCast_nonneg i)
theorem slcHi(s:List UInt8)(i:Nat)(h:i≤s.length):slcS (.str s) none (some (.int .i64 (i:Int)))=some (.str (s.take i)):=by
 rw[show slcS (.str s) none (some (.int .i64 (i:Int)))=(boundV none 0).bind fun a=>(boundV (some (.int .i64 (i:Int))) s.length).bind fun b=>if a≤b∧b≤s.length then some (V.str ((s.take b).drop a)) else none from rfl]
 have e:boundV (some (.int .i64 (i:Int))) s.length=some i:=by simp[boundV]
 rw[e]
 simp only[boundV,Option.bind_some]
 rw[if_pos ⟨Nat.zero_le _,h⟩,List.drop_zero]
set_option maxHeartbeats 2000000 in
theorem word_fn(c:UInt8)(r:List UInt8)(hl:(c::r).length≤4096):Fn TT PT 118 [.str (c::r)] (if 12<(wrdE c r).length then .tup [.agg (Tk.row Tk.zero),.int .i64 2] else .tup [.agg (Tk.row ⟨if kwE (wrdE c r) then 3 else 1,wrdE c r,0⟩),.int .i64 0]):=by
 obtain⟨w1,w2,w3,w4⟩:=tw_at (p:=innB) r
 have hW:(c::r).take (wrdE c r).length=wrdE c r:=by simp[wrdE,w4]
 have hWl:(wrdE c r).length=(r.takeWhile innB).length+1:=by simp[wrdE]
 rw[List.length_cons]at hl
 generalize hn:(wrdE c r).length=n at hW hWl ⊢
 refine Fn_go T118 rfl ?_
 simp only[go_sem]
 refine loop_w (α:=Nat) (fun i=>n - i) (fun i=>[(0,.str (c::r)),(2,.ptr 0 0 0),(4,.int .i64 (i:Int))]) (fun _=>[.row [.int .i64 0,.str [],.int .i64 0] 145 0 0]) (fun i=>1≤i∧i≤n) ?_ 1 ⟨by omega,by omega⟩
 rintro i ⟨h1,h2⟩ ih
 refine w_rep (by delta lp118_0;exact rfl) ?_
 by_cases hi:i<n
 ·obtain⟨x,x1,x2⟩:=w1 (i - 1) (by omega)
  have x3:(c::r)[i]?=some x:=by
   obtain⟨j,rfl⟩:∃ j,i=j+1:=⟨i - 1,by omega⟩
   simpa using x1
  have g1:decide ((i:Int)<((r.length+1:Nat):Int))=true:=by simp;omega
  have e95:((x.toNat:Int)==95)=(x==95):=u8_eq x 95 (by decide)
  have lt1:=lt_t (show i<r.length+1 by omega)
  have hin:=inc64 (show i<9223372036854775807 by omega)
  rw[inn_or]at x2
  by_cases hL:letB x=true
  ·simp only[go_sem,lt1,nn,x3]
   refine wx_fn (letter_fn x) (by simp only[go_sem]) ?_
   simp only[go_sem,hL,hin]
   exact W_keep (ih (i+1) (by omega) (by omega)) rfl
  ·have hL:letB x=false:=by simpa using hL
   by_cases hD:digB x=true
   ·simp only[go_sem,lt1,nn,x3]
    refine wx_fn (letter_fn x) (by simp only[go_sem]) ?_
    simp only[go_sem,hL,nn,x3]
    refine wx_fn (digit_fn x) (by simp only[go_sem]) ?_
    simp only[go_sem,hD,hin]
    exact W_keep (ih (i+1) (by omega) (by omega)) rfl
   ·have hD:digB x=false:=by simpa using hD
    rw[hL,hD]at x2
    simp only[Bool.false_or]at x2
    simp only[go_sem,lt1,nn,x3]
    refine wx_fn (letter_fn x) (by simp only[go_sem]) ?_
    simp only[go_sem,hL,nn,x3]
    refine wx_fn (digit_fn x) (by simp only[go_sem]) ?_
    simp only[go_sem,hD,nn,x3,e95,x2,hin]
    exact W_keep (ih (i+1) (by omega) (by omega)) rfl
 ·obtain rfl:i=n:=by omega
  have gi:(i≤r.length+1)=True:=eq_true (by omega)
  have hcut:slcS (.str (c::r)) none (some (.int .i64 (i:Int)))=some (.str (wrdE c r)):=by
   rw[slcHi _ _ (by simp;omega),hW]
  by_cases hb:i<r.length+1
  ·obtain⟨x,x1,x2⟩:=w2 (by omega)
   have x3:(c::r)[i]?=some x:=by rw[hWl];simpa using x1
   have e95:((x.toNat:Int)==95)=(x==95):=u8_eq x 95 (by decide)
   have lt1:=lt_t (show i<r.length+1 by omega)
   rw[inn_or]at x2
   simp only[Bool.or_eq_false_iff]at x2
   obtain⟨hL,hD,h9⟩:=x2
   simp only[go_sem,lt1,nn,x3]
   refine wx_fn (letter_fn x) (by simp only[go_sem]) ?_
   simp only[go_sem,hL,nn,x3]
   refine wx_fn (digit_fn x) (by simp only[go_sem]) ?_
   simp only[go_sem,hD,nn,x3,e95,h9]
   by_cases h12:12<i
   ·have f12:decide ((12:Int)<(i:Int))=true:=by simp;omega
    rw[if_pos h12]
    simp only[go_sem,gt_iff_lt,f12]
    exact fr_tup2 (by simp only[go_sem]) rfl
   ·have f12:decide ((12:Int)<(i:Int))=false:=by simp;omega
    rw[if_neg h12]
    simp only[go_sem,gt_iff_lt,f12,nn,gi,hW,Nat.zero_le,true_and,if_true,Option.bind_some]
    refine wx_pr P159 rfl (by rfl) ?_
    cases hk:kwE (wrdE c r)
    ·simp only[go_sem,hk,nn,gi,hW,Nat.zero_le,true_and,if_true,Option.bind_some]
     exact fr_tup2 (by simp only[go_sem]) rfl
    ·simp only[go_sem,hk,nn,gi,hW,Nat.zero_le,true_and,if_true,Option.bind_some]
     exact fr_tup2 (by simp only[go_sem]) rfl
  ·simp only[go_sem,lt_f (show r.length+1≤i by omega)]
   by_cases h12:12<i
   ·have f12:decide ((12:Int)<(i:Int))=true:=by simp;omega
    rw[if_pos h12]
    simp only[go_sem,gt_iff_lt,f12]
    exact fr_tup2 (by simp only[go_sem]) rfl
   ·have f12:decide ((12:Int)<(i:Int))=false:=by simp;omega
    rw[if_neg h12]
    simp only[go_sem,gt_iff_lt,f12,nn,gi,hW,Nat.zero_le,true_and,if_true,Option.bind_some]
    refine wx_pr P159 rfl (by rfl) ?_
    cases hk:kwE (wrdE c r)
    ·simp only[go_sem,hk,nn,gi,hW,Nat.zero_le,true_and,if_true,Option.bind_some]
     exact fr_tup2 (by simp only[go_sem]) rfl
    ·simp only[go_sem,hk,nn,gi,hW,Nat.zero_le,true_and,if_true,Option.bind_some]
     exact fr_tup2 (by simp only[go_sem]) rfl
end Go.Proofs.YtlehfgdhebapeaaGreatDoor.KM
