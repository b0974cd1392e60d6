/- Plain: numerals. -/
import Derived.Test.YtlehfgdhebapeaaGreatDoorLd
set_option linter.all false
namespace Go.Proofs.YtlehfgdhebapeaaGreatDoor.KM
open Go
def E8(acc:Nat)(l:List UInt8):Nat:=l.foldl (fun a c=>a*10+(c.toNat - 48)) acc
def He(l:List UInt8):Prop:=∀ c∈l,C4 c=true
theorem Pb(acc:Nat):E8 acc []=acc:=rfl
theorem Pc(acc:Nat)(c:UInt8)(r:List UInt8):E8 acc (c::r)=E8 (acc*10+(c.toNat - 48)) r:=by unfold E8;rw[List.foldl_cons]
theorem Ni{c:UInt8}{l:List UInt8}(h:He (c::l)):He l:=fun d hd=>h d (Cb _ hd)
theorem Avy{c:UInt8}(h:C4 c=true):48<=c.toNat/\c.toNat<=57:=by
 unfold C4 Og at h
 simpa using h
theorem Rc{c:UInt8}{l:List UInt8}(h:He (c::l)):48<=c.toNat/\c.toNat<=57:=Avy (h c Co)
theorem Agr:∀ (l:List UInt8) (acc:Nat) (c:UInt8),E8 acc (l++[c])=E8 acc l*10+(c.toNat - 48)
 | [],_,_=>rfl
 | d::l,acc,c=>by rw[Bg,Pc,Pc];exact Agr l _ c
theorem T5:∀ (l:List UInt8) (acc:Nat),acc*10 ^ l.length<=E8 acc l
 | [],acc=>by rw[Pb];simp
 | c::l,acc=>by
  have:=T5 l (acc*10+(c.toNat - 48))
  have h1:acc*10*10 ^ l.length<=(acc*10+(c.toNat - 48))*10 ^ l.length:=Hi _ (by omega)
  have e:acc*10 ^ (l.length+1)=acc*10*10 ^ l.length:=by rw[Y7,P9 (10 ^ l.length),Nat.mul_assoc]
  rw[Ag,e]
  exact Ed h1 this
theorem W4:∀ (l:List UInt8) (acc:Nat),He l->E8 acc l<(acc+1)*10 ^ l.length
 | [],acc,_=>by rw[Pb];simp
 | c::l,acc,h=>by
  have:=W4 l (acc*10+(c.toNat - 48)) (Ni h)
  have hc:=Rc h
  have h1:(acc*10+(c.toNat - 48)+1)*10 ^ l.length<=(acc*10+10)*10 ^ l.length:=Hi _ (by omega)
  have e:(acc+1)*10 ^ (l.length+1)=(acc*10+10)*10 ^ l.length:=by rw[Y7,P9 (10 ^ l.length),<-Nat.mul_assoc,show(acc+1)*10=acc*10+10 by omega]
  rw[Ag,e]
  exact P4 this h1
theorem Ags:∀ (a b:List UInt8) (acc:Nat),He a->He b->a.length=b.length->Op.bytesLess a b=decide (E8 acc a<E8 acc b)
 | [],[],acc,_,_,_=>by simp[Op.bytesLess]
 | [],_::_,_,_,_,h=>by simp at h
 | _::_,[],_,_,_,h=>by simp at h
 | x::a,y::b,acc,ha,hb,h=>by
  have hx:=Rc ha
  have hy:=Rc hb
  have hl:a.length=b.length:=by simpa using h
  simp only[Op.bytesLess]
  by_cases h1:x<y
  ·have h1':x.toNat<y.toNat:=h1
   rw[decide_eq_true h1,Bool.true_or]
   symm
   rw[decide_eq_true_eq]
   have p1:=W4 a (acc*10+(x.toNat - 48)) (Ni ha)
   have p2:=T5 b (acc*10+(y.toNat - 48))
   have p3:(acc*10+(x.toNat - 48)+1)*10 ^ a.length<=(acc*10+(y.toNat - 48))*10 ^ a.length:=Hi _ (by omega)
   simp only[Pc,Pb]
   rw[hl]at p1 p3
   omega
  ·rw[decide_eq_false h1,Sq]
   have h1':y.toNat<=x.toNat:=Nat.le_of_not_lt h1
   by_cases h2:x=y
   ·subst h2
    rw[beq_self_eq_true,J7]
    exact Ags a b _ (Ni ha) (Ni hb) hl
   ·have h2':y.toNat<x.toNat:=by
     have:x.toNat≠y.toNat:=fun e=>h2 (UInt8.toNat_inj.1 e)
     omega
    rw[beq_eq_false_iff_ne.2 h2,Y1]
    symm
    rw[decide_eq_false_iff_not]
    have p1:=W4 b (acc*10+(y.toNat - 48)) (Ni hb)
    have p2:=T5 a (acc*10+(x.toNat - 48))
    have p3:(acc*10+(y.toNat - 48)+1)*10 ^ b.length<=(acc*10+(x.toNat - 48))*10 ^ b.length:=Hi _ (by omega)
    simp only[Pc,Pb]
    rw[hl]at p2
    omega
theorem Agt:∀ (l:List UInt8),E8 0 (l.dropWhile (·==48))=E8 0 l
 | []=>rfl
 | c::l=>by
  rw[Pz]
  split
  ·rename_i h
   have hc:c=48:=by simpa using h
   subst hc
   rw[Agt l]
   rfl
  ·rfl
theorem Afe:∀ {l:List UInt8},He l->He (l.dropWhile (·==48))/\∀ c r,l.dropWhile (·==48)=c::r->49<=c.toNat
 | [],_=>⟨fun _ h=>by simp at h,fun c r h=>by simp at h⟩
 | c::l,h=>by
  rw[Pz]
  split
  ·exact Afe (Ni h)
  ·rename_i hc
   refine⟨h,fun d r e=>?_⟩
   cases e
   have:=Rc h
   have h2:c.toNat≠48:=fun e=>hc (by simp[UInt8.toNat_inj.1 (show c.toNat=(48:UInt8).toNat from e)])
   omega
theorem Zt{w:List UInt8}(h:He w):Le w=decide (E8 0 w<=9223372036854775807):=by
 obtain⟨h1,h2⟩:=Afe h
 rw[<-Agt w]
 unfold Le
 simp only
 generalize w.dropWhile (·==48)=d at h1 h2 ⊢
 have hg:E8 0 greatS=9223372036854775807:=by decide
 have hgd:He greatS:=fun c hc=>by
  have:greatS.all C4=true:=by decide
  exact A5.1 this c hc
 by_cases hl:19<d.length
 ·rw[decide_eq_true hl,Bool.true_or,El]
  symm
  rw[decide_eq_false_iff_not]
  match d,hl,h1,h2 with
  | c::r,hl,h1,h2=>
   have hc:=h2 c r rfl
   have hlo:=T5 r (0*10+(c.toNat - 48))
   simp only[Pc,Pb]
   have:10 ^ 19<=10 ^ r.length:=Nat.pow_le_pow_right (by decide) (by simp at hl;omega)
   have h3:1*10 ^ r.length<=(0*10+(c.toNat - 48))*10 ^ r.length:=Hi _ (by omega)
   omega
 ·rw[decide_eq_false hl,Sq]
  by_cases h19:d.length=19
  ·rw[decide_eq_true h19,J7,Ags greatS d 0 hgd h1 (by rw[h19];rfl),hg]
   by_cases hv:9223372036854775807<E8 0 d
   ·rw[decide_eq_true hv]
    symm
    rw[El,decide_eq_false_iff_not]
    omega
   ·rw[decide_eq_false hv]
    symm
    rw[Fa,decide_eq_true_eq]
    omega
  ·rw[decide_eq_false h19,Y1,Fa]
   symm
   rw[decide_eq_true_eq]
   have hhi:=W4 d 0 h1
   have:10 ^ d.length<=10 ^ 18:=Nat.pow_le_pow_right (by decide) (by omega)
   omega
theorem Ash(l:List UInt8)(acc:Nat):acc<=E8 acc l:=by
 have:=T5 l acc
 have h:1<=10 ^ l.length:=Nat.one_le_pow _ _ (by decide)
 have:=Nat.mul_le_mul_left acc h
 omega
theorem pum:∀ (l:List UInt8) (acc:Nat),He l->E8 acc l<=18446744073709551615->Lib.parseUintM 18446744073709551615 acc l=.ok (E8 acc l)
 | [],_,_,_=>rfl
 | c::l,acc,h,hv=>by
  have hc:=Rc h
  have hge:=Ash l (acc*10+(c.toNat - 48))
  simp only[Pc,Pb]at hv ⊢
  rw[Lib.parseUintM,if_pos hc,if_neg (by omega),if_neg (by omega)]
  exact pum l _ (Ni h) hv
theorem Akl{c:UInt8}{l:List UInt8}(h:He (c::l))(hv:E8 0 (c::l)<=9223372036854775807):Lib.parseIntB 64 (c::l)=.ok (E8 0 (c::l):Int):=by
 have hc:=Rc h
 have hp:=pum (c::l) 0 h (by omega)
 unfold Lib.parseIntB
 simp only
 rw[if_neg (by omega)]
 unfold Lib.parseUintB
 rw[if_neg (by simp),show(2 ^ 64 - 1:Nat)=18446744073709551615 by decide,hp]
 simp only
 rw[if_neg (by omega),if_neg (by omega),if_neg (by omega)]
theorem Aac{c:UInt8}{l:List UInt8}(h:He (c::l))(hv:E8 0 (c::l)<=9223372036854775807):Gx (c::l)=(E8 0 (c::l):Int):=by
 unfold Gx
 rw[Akl h hv]
theorem u8n{n:Nat}(h:n<256):(UInt8.ofNat n).toNat=n:=by simp[P8 h]
theorem Zu:∀ (k u:Nat),He (Gw k u)/\(u<10 ^ k->E8 0 (Gw k u)=u)/\(1<=k->Gw k u≠[])
 | 0,u=>⟨fun c h=>by simp[Gw]at h,fun h=>by simp at h;subst h;rfl,fun h=>by omega⟩
 | k+1,u=>by
  obtain⟨h1,h2,h3⟩:=Zu k (u / 10)
  unfold Gw
  split
  ·rename_i hu
   have e:(UInt8.ofNat (48+u)).toNat=48+u:=u8n (by omega)
   refine⟨fun c hc=>?_,fun _=>?_,fun _=>by simp⟩
   ·rw[J6]at hc
    subst hc
    unfold C4 Og
    rw[e]
    simp
    omega
   ·simp only[Pc,Pb,e]
    omega
  ·rename_i hu
   have e:(UInt8.ofNat (48+u % 10)).toNat=48+u % 10:=u8n (by omega)
   refine⟨fun c hc=>?_,fun hk=>?_,fun _=>by simp⟩
   ·rcases Ek.1 hc with hc | hc
    ·exact h1 c hc
    ·rw[J6]at hc
     subst hc
     unfold C4 Og
     rw[e]
     simp
     omega
   ·rw[Agr,h2 (by rw[Y7]at hk;omega),e]
    omega
theorem Aid{n:Int}(hn:0<=n):A4 n=Gw 20 n.toNat:=by
 unfold A4
 rw[if_neg (by omega)]
theorem Avz:Ia:=fun n hn=>by
 rw[Aid hn.1]
 obtain⟨h1,h2,h3⟩:=Zu 20 n.toNat
 have h20:(10:Nat) ^ 20=100000000000000000000:=by decide
 have hv:=h2 (by omega)
 match hd:Gw 20 n.toNat with
 | []=>exact absurd hd (h3 (by decide))
 | c::l=>
  rw[hd]at h1 hv
  rw[Aac h1 (by omega),hv]
  omega
theorem Av0:Lh:=fun n hn=>by
 rw[Aid hn.1]
 obtain⟨h1,h2,h3⟩:=Zu 20 n.toNat
 have h20:(10:Nat) ^ 20=100000000000000000000:=by decide
 have hv:=h2 (by omega)
 refine⟨?_,by rw[Zt h1,hv];simp;omega⟩
 match hd:Gw 20 n.toNat with
 | []=>exact absurd hd (h3 (by decide))
 | c::l=>
  rw[hd]at h1
  exact⟨c,l,rfl,h1 c Co,Ni h1⟩
end Go.Proofs.YtlehfgdhebapeaaGreatDoor.KM
