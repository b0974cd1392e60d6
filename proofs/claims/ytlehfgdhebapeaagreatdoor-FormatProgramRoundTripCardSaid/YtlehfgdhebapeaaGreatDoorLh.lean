/- Plain: numerals. -/
import Derived.Test.YtlehfgdhebapeaaGreatDoorLd
set_option linter.all false
namespace Go.Proofs.YtlehfgdhebapeaaGreatDoor.KM
open Go
def valN(acc:Nat)(l:List UInt8):Nat:=l.foldl (fun a c=>a*10+(c.toNat - 48)) acc
def digs(l:List UInt8):Prop:=∀ c∈l,digB c=true
theorem valN_n(acc:Nat):valN acc []=acc:=rfl
theorem valN_c(acc:Nat)(c:UInt8)(r:List UInt8):valN acc (c::r)=valN (acc*10+(c.toNat - 48)) r:=by unfold valN;rw[List.foldl_cons]
theorem digs_t{c:UInt8}{l:List UInt8}(h:digs (c::l)):digs l:=fun d hd=>h d (List.mem_cons_of_mem _ hd)
theorem digB_n{c:UInt8}(h:digB c=true):48≤c.toNat∧c.toNat≤57:=by
 unfold digB digN at h
 simpa using h
theorem digs_h{c:UInt8}{l:List UInt8}(h:digs (c::l)):48≤c.toNat∧c.toNat≤57:=digB_n (h c List.mem_cons_self)
theorem valN_app:∀ (l:List UInt8) (acc:Nat) (c:UInt8),valN acc (l++[c])=valN acc l*10+(c.toNat - 48)
 | [],_,_=>rfl
 | d::l,acc,c=>by rw[List.cons_append,valN_c,valN_c];exact valN_app l _ c
theorem valN_lo:∀ (l:List UInt8) (acc:Nat),acc*10 ^ l.length≤valN acc l
 | [],acc=>by rw[valN_n];simp
 | c::l,acc=>by
  have:=valN_lo l (acc*10+(c.toNat - 48))
  have h1:acc*10*10 ^ l.length≤(acc*10+(c.toNat - 48))*10 ^ l.length:=Nat.mul_le_mul_right _ (by omega)
  have e:acc*10 ^ (l.length+1)=acc*10*10 ^ l.length:=by rw[Nat.pow_succ,Nat.mul_comm (10 ^ l.length),Nat.mul_assoc]
  rw[List.length_cons,e]
  exact Nat.le_trans h1 this
theorem valN_hi:∀ (l:List UInt8) (acc:Nat),digs l→valN acc l<(acc+1)*10 ^ l.length
 | [],acc,_=>by rw[valN_n];simp
 | c::l,acc,h=>by
  have:=valN_hi l (acc*10+(c.toNat - 48)) (digs_t h)
  have hc:=digs_h h
  have h1:(acc*10+(c.toNat - 48)+1)*10 ^ l.length≤(acc*10+10)*10 ^ l.length:=Nat.mul_le_mul_right _ (by omega)
  have e:(acc+1)*10 ^ (l.length+1)=(acc*10+10)*10 ^ l.length:=by rw[Nat.pow_succ,Nat.mul_comm (10 ^ l.length),←Nat.mul_assoc,show(acc+1)*10=acc*10+10 by omega]
  rw[List.length_cons,e]
  exact Nat.lt_of_lt_of_le this h1
theorem less_val:∀ (a b:List UInt8) (acc:Nat),digs a→digs b→a.length=b.length→Op.bytesLess a b=decide (valN acc a<valN acc b)
 | [],[],acc,_,_,_=>by simp[Op.bytesLess]
 | [],_::_,_,_,_,h=>by simp at h
 | _::_,[],_,_,_,h=>by simp at h
 | x::a,y::b,acc,ha,hb,h=>by
  have hx:=digs_h ha
  have hy:=digs_h hb
  have hl:a.length=b.length:=by simpa using h
  simp only[Op.bytesLess]
  by_cases h1:x<y
  ·have h1':x.toNat<y.toNat:=h1
   rw[decide_eq_true h1,Bool.true_or]
   symm
   rw[decide_eq_true_eq]
   have p1:=valN_hi a (acc*10+(x.toNat - 48)) (digs_t ha)
   have p2:=valN_lo b (acc*10+(y.toNat - 48))
   have p3:(acc*10+(x.toNat - 48)+1)*10 ^ a.length≤(acc*10+(y.toNat - 48))*10 ^ a.length:=Nat.mul_le_mul_right _ (by omega)
   simp only[valN_c,valN_n]
   rw[hl]at p1 p3
   omega
  ·rw[decide_eq_false h1,Bool.false_or]
   have h1':y.toNat≤x.toNat:=Nat.le_of_not_lt h1
   by_cases h2:x=y
   ·subst h2
    rw[beq_self_eq_true,Bool.true_and]
    exact less_val a b _ (digs_t ha) (digs_t hb) hl
   ·have h2':y.toNat<x.toNat:=by
     have:x.toNat≠y.toNat:=fun e=>h2 (UInt8.toNat_inj.1 e)
     omega
    rw[beq_eq_false_iff_ne.2 h2,Bool.false_and]
    symm
    rw[decide_eq_false_iff_not]
    have p1:=valN_hi b (acc*10+(y.toNat - 48)) (digs_t hb)
    have p2:=valN_lo a (acc*10+(x.toNat - 48))
    have p3:(acc*10+(y.toNat - 48)+1)*10 ^ b.length≤(acc*10+(x.toNat - 48))*10 ^ b.length:=Nat.mul_le_mul_right _ (by omega)
    simp only[valN_c,valN_n]
    rw[hl]at p2
    omega
theorem val_zero:∀ (l:List UInt8),valN 0 (l.dropWhile (·==48))=valN 0 l
 | []=>rfl
 | c::l=>by
  rw[List.dropWhile_cons]
  split
  ·rename_i h
   have hc:c=48:=by simpa using h
   subst hc
   rw[val_zero l]
   rfl
  ·rfl
theorem drop_digs:∀ {l:List UInt8},digs l→digs (l.dropWhile (·==48))∧∀ c r,l.dropWhile (·==48)=c::r→49≤c.toNat
 | [],_=>⟨fun _ h=>by simp at h,fun c r h=>by simp at h⟩
 | c::l,h=>by
  rw[List.dropWhile_cons]
  split
  ·exact drop_digs (digs_t h)
  ·rename_i hc
   refine⟨h,fun d r e=>?_⟩
   cases e
   have:=digs_h h
   have h2:c.toNat≠48:=fun e=>hc (by simp[UInt8.toNat_inj.1 (show c.toNat=(48:UInt8).toNat from e)])
   omega
theorem numOk_val{w:List UInt8}(h:digs w):numOk w=decide (valN 0 w≤9223372036854775807):=by
 obtain⟨h1,h2⟩:=drop_digs h
 rw[←val_zero w]
 unfold numOk
 simp only
 generalize w.dropWhile (·==48)=d at h1 h2 ⊢
 have hg:valN 0 greatS=9223372036854775807:=by decide
 have hgd:digs greatS:=fun c hc=>by
  have:greatS.all digB=true:=by decide
  exact List.all_eq_true.1 this c hc
 by_cases hl:19<d.length
 ·rw[decide_eq_true hl,Bool.true_or,Bool.not_true]
  symm
  rw[decide_eq_false_iff_not]
  match d,hl,h1,h2 with
  | c::r,hl,h1,h2=>
   have hc:=h2 c r rfl
   have hlo:=valN_lo r (0*10+(c.toNat - 48))
   simp only[valN_c,valN_n]
   have:10 ^ 19≤10 ^ r.length:=Nat.pow_le_pow_right (by decide) (by simp at hl;omega)
   have h3:1*10 ^ r.length≤(0*10+(c.toNat - 48))*10 ^ r.length:=Nat.mul_le_mul_right _ (by omega)
   omega
 ·rw[decide_eq_false hl,Bool.false_or]
  by_cases h19:d.length=19
  ·rw[decide_eq_true h19,Bool.true_and,less_val greatS d 0 hgd h1 (by rw[h19];rfl),hg]
   by_cases hv:9223372036854775807<valN 0 d
   ·rw[decide_eq_true hv]
    symm
    rw[Bool.not_true,decide_eq_false_iff_not]
    omega
   ·rw[decide_eq_false hv]
    symm
    rw[Bool.not_false,decide_eq_true_eq]
    omega
  ·rw[decide_eq_false h19,Bool.false_and,Bool.not_false]
   symm
   rw[decide_eq_true_eq]
   have hhi:=valN_hi d 0 h1
   have:10 ^ d.length≤10 ^ 18:=Nat.pow_le_pow_right (by decide) (by omega)
   omega
theorem valN_ge(l:List UInt8)(acc:Nat):acc≤valN acc l:=by
 have:=valN_lo l acc
 have h:1≤10 ^ l.length:=Nat.one_le_pow _ _ (by decide)
 have:=Nat.mul_le_mul_left acc h
 omega
theorem pum:∀ (l:List UInt8) (acc:Nat),digs l→valN acc l≤18446744073709551615→Lib.parseUintM 18446744073709551615 acc l=.ok (valN acc l)
 | [],_,_,_=>rfl
 | c::l,acc,h,hv=>by
  have hc:=digs_h h
  have hge:=valN_ge l (acc*10+(c.toNat - 48))
  simp only[valN_c,valN_n]at hv ⊢
  rw[Lib.parseUintM,if_pos hc,if_neg (by omega),if_neg (by omega)]
  exact pum l _ (digs_t h) hv
theorem pint{c:UInt8}{l:List UInt8}(h:digs (c::l))(hv:valN 0 (c::l)≤9223372036854775807):Lib.parseIntB 64 (c::l)=.ok (valN 0 (c::l):Int):=by
 have hc:=digs_h h
 have hp:=pum (c::l) 0 h (by omega)
 unfold Lib.parseIntB
 simp only
 rw[if_neg (by omega)]
 unfold Lib.parseUintB
 rw[if_neg (by simp),show(2 ^ 64 - 1:Nat)=18446744073709551615 by decide,hp]
 simp only
 rw[if_neg (by omega),if_neg (by omega),if_neg (by omega)]
theorem numV_val{c:UInt8}{l:List UInt8}(h:digs (c::l))(hv:valN 0 (c::l)≤9223372036854775807):numV (c::l)=(valN 0 (c::l):Int):=by
 unfold numV
 rw[pint h hv]
theorem u8n{n:Nat}(h:n<256):(UInt8.ofNat n).toNat=n:=by simp[Nat.mod_eq_of_lt h]
theorem decE_digs:∀ (k u:Nat),digs (decE k u)∧(u<10 ^ k→valN 0 (decE k u)=u)∧(1≤k→decE k u≠[])
 | 0,u=>⟨fun c h=>by simp[decE]at h,fun h=>by simp at h;subst h;rfl,fun h=>by omega⟩
 | k+1,u=>by
  obtain⟨h1,h2,h3⟩:=decE_digs k (u / 10)
  unfold decE
  split
  ·rename_i hu
   have e:(UInt8.ofNat (48+u)).toNat=48+u:=u8n (by omega)
   refine⟨fun c hc=>?_,fun _=>?_,fun _=>by simp⟩
   ·rw[List.mem_singleton]at hc
    subst hc
    unfold digB digN
    rw[e]
    simp
    omega
   ·simp only[valN_c,valN_n,e]
    omega
  ·rename_i hu
   have e:(UInt8.ofNat (48+u % 10)).toNat=48+u % 10:=u8n (by omega)
   refine⟨fun c hc=>?_,fun hk=>?_,fun _=>by simp⟩
   ·rcases List.mem_append.1 hc with hc | hc
    ·exact h1 c hc
    ·rw[List.mem_singleton]at hc
     subst hc
     unfold digB digN
     rw[e]
     simp
     omega
   ·rw[valN_app,h2 (by rw[Nat.pow_succ]at hk;omega),e]
    omega
theorem itoa_nn{n:Int}(hn:0≤n):itoaE n=decE 20 n.toNat:=by
 unfold itoaE
 rw[if_neg (by omega)]
theorem num_rt:NumRT:=fun n hn=>by
 rw[itoa_nn hn.1]
 obtain⟨h1,h2,h3⟩:=decE_digs 20 n.toNat
 have h20:(10:Nat) ^ 20=100000000000000000000:=by decide
 have hv:=h2 (by omega)
 match hd:decE 20 n.toNat with
 | []=>exact absurd hd (h3 (by decide))
 | c::l=>
  rw[hd]at h1 hv
  rw[numV_val h1 (by omega),hv]
  omega
theorem dig_rt:DigRT:=fun n hn=>by
 rw[itoa_nn hn.1]
 obtain⟨h1,h2,h3⟩:=decE_digs 20 n.toNat
 have h20:(10:Nat) ^ 20=100000000000000000000:=by decide
 have hv:=h2 (by omega)
 refine⟨?_,by rw[numOk_val h1,hv];simp;omega⟩
 match hd:decE 20 n.toNat with
 | []=>exact absurd hd (h3 (by decide))
 | c::l=>
  rw[hd]at h1
  exact⟨c,l,rfl,h1 c List.mem_cons_self,digs_t h1⟩
end Go.Proofs.YtlehfgdhebapeaaGreatDoor.KM
