/- Plain: numerals. -/
import Derived.Test.YtcoeikinocflnaaGreatDoorLd
set_option linter.all false
namespace Go.Proofs.YtcoeikinocflnaaGreatDoor.KM
open Go
def Es(acc:Nat)(l:List UInt8):Nat:=l.foldl (fun a c=>a*10+(c.toNat - 48)) acc
def Ha(l:List UInt8):Prop:=∀ c∈l,C1 c=true
theorem O9(acc:Nat):Es acc []=acc:=rfl
theorem Pa(acc:Nat)(c:UInt8)(r:List UInt8):Es acc (c::r)=Es (acc*10+(c.toNat - 48)) r:=by unfold Es;rw[List.foldl_cons]
theorem M9{c:UInt8}{l:List UInt8}(h:Ha (c::l)):Ha l:=fun d hd=>h d (Db _ hd)
theorem Ax2{c:UInt8}(h:C1 c=true):48<=c.toNat/\c.toNat<=57:=by
 unfold C1 Mb at h
 simpa using h
theorem Rf{c:UInt8}{l:List UInt8}(h:Ha (c::l)):48<=c.toNat/\c.toNat<=57:=Ax2 (h c Dm)
theorem Ahc:∀ (l:List UInt8) (acc:Nat) (c:UInt8),Es acc (l++[c])=Es acc l*10+(c.toNat - 48)
 | [],_,_=>rfl
 | d::l,acc,c=>by rw[Cq,Pa,Pa];exact Ahc l _ c
theorem Tz:∀ (l:List UInt8) (acc:Nat),acc*10 ^ l.length<=Es acc l
 | [],acc=>by rw[O9];simp
 | c::l,acc=>by
  have:=Tz l (acc*10+(c.toNat - 48))
  have h1:acc*10*10 ^ l.length<=(acc*10+(c.toNat - 48))*10 ^ l.length:=Ir _ (by omega)
  have e:acc*10 ^ (l.length+1)=acc*10*10 ^ l.length:=by rw[Zd,P7 (10 ^ l.length),Nat.mul_assoc]
  rw[Af,e]
  exact Eo h1 this
theorem Xa:∀ (l:List UInt8) (acc:Nat),Ha l->Es acc l<(acc+1)*10 ^ l.length
 | [],acc,_=>by rw[O9];simp
 | c::l,acc,h=>by
  have:=Xa l (acc*10+(c.toNat - 48)) (M9 h)
  have hc:=Rf h
  have h1:(acc*10+(c.toNat - 48)+1)*10 ^ l.length<=(acc*10+10)*10 ^ l.length:=Ir _ (by omega)
  have e:(acc+1)*10 ^ (l.length+1)=(acc*10+10)*10 ^ l.length:=by rw[Zd,P7 (10 ^ l.length),<-Nat.mul_assoc,show(acc+1)*10=acc*10+10 by omega]
  rw[Af,e]
  exact Py this h1
theorem Ahd:∀ (a b:List UInt8) (acc:Nat),Ha a->Ha b->a.length=b.length->Op.bytesLess a b=decide (Es acc a<Es acc b)
 | [],[],acc,_,_,_=>by simp[Op.bytesLess]
 | [],_::_,_,_,_,h=>by simp at h
 | _::_,[],_,_,_,h=>by simp at h
 | x::a,y::b,acc,ha,hb,h=>by
  have hx:=Rf ha
  have hy:=Rf hb
  have hl:a.length=b.length:=by simpa using h
  simp only[Op.bytesLess]
  by_cases h1:x<y
  ·have h1':x.toNat<y.toNat:=h1
   rw[decide_eq_true h1,Bool.true_or]
   symm
   rw[decide_eq_true_eq]
   have p1:=Xa a (acc*10+(x.toNat - 48)) (M9 ha)
   have p2:=Tz b (acc*10+(y.toNat - 48))
   have p3:(acc*10+(x.toNat - 48)+1)*10 ^ a.length<=(acc*10+(y.toNat - 48))*10 ^ a.length:=Ir _ (by omega)
   simp only[Pa,O9]
   rw[hl]at p1 p3
   omega
  ·rw[decide_eq_false h1,P6]
   have h1':y.toNat<=x.toNat:=Nat.le_of_not_lt h1
   by_cases h2:x=y
   ·subst h2
    rw[beq_self_eq_true,Y7]
    exact Ahd a b _ (M9 ha) (M9 hb) hl
   ·have h2':y.toNat<x.toNat:=by
     have:x.toNat≠y.toNat:=fun e=>h2 (UInt8.toNat_inj.1 e)
     omega
    rw[beq_eq_false_iff_ne.2 h2,Bool.false_and]
    symm
    rw[decide_eq_false_iff_not]
    have p1:=Xa b (acc*10+(y.toNat - 48)) (M9 hb)
    have p2:=Tz a (acc*10+(x.toNat - 48))
    have p3:(acc*10+(y.toNat - 48)+1)*10 ^ b.length<=(acc*10+(x.toNat - 48))*10 ^ b.length:=Ir _ (by omega)
    simp only[Pa,O9]
    rw[hl]at p2
    omega
theorem Ahe:∀ (l:List UInt8),Es 0 (l.dropWhile (·==48))=Es 0 l
 | []=>rfl
 | c::l=>by
  rw[Pw]
  split
  ·rename_i h
   have hc:c=48:=by simpa using h
   subst hc
   rw[Ahe l]
   rfl
  ·rfl
theorem Afx:∀ {l:List UInt8},Ha l->Ha (l.dropWhile (·==48))/\∀ c r,l.dropWhile (·==48)=c::r->49<=c.toNat
 | [],_=>⟨fun _ h=>by simp at h,fun c r h=>by simp at h⟩
 | c::l,h=>by
  rw[Pw]
  split
  ·exact Afx (M9 h)
  ·rename_i hc
   refine⟨h,fun d r e=>?_⟩
   cases e
   have:=Rf h
   have h2:c.toNat≠48:=fun e=>hc (by simp[UInt8.toNat_inj.1 (show c.toNat=(48:UInt8).toNat from e)])
   omega
theorem Z5{w:List UInt8}(h:Ha w):K9 w=decide (Es 0 w<=9223372036854775807):=by
 obtain⟨h1,h2⟩:=Afx h
 rw[<-Ahe w]
 unfold K9
 simp only
 generalize w.dropWhile (·==48)=d at h1 h2 ⊢
 have hg:Es 0 greatS=9223372036854775807:=by decide
 have hgd:Ha greatS:=fun c hc=>by
  have:greatS.all C1=true:=by decide
  exact A3.1 this c hc
 by_cases hl:19<d.length
 ·rw[decide_eq_true hl,Bool.true_or,Lm]
  symm
  rw[decide_eq_false_iff_not]
  match d,hl,h1,h2 with
  | c::r,hl,h1,h2=>
   have hc:=h2 c r rfl
   have hlo:=Tz r (0*10+(c.toNat - 48))
   simp only[Pa,O9]
   have:10 ^ 19<=10 ^ r.length:=Nat.pow_le_pow_right (by decide) (by simp at hl;omega)
   have h3:1*10 ^ r.length<=(0*10+(c.toNat - 48))*10 ^ r.length:=Ir _ (by omega)
   omega
 ·rw[decide_eq_false hl,P6]
  by_cases h19:d.length=19
  ·rw[decide_eq_true h19,Y7,Ahd greatS d 0 hgd h1 (by rw[h19];rfl),hg]
   by_cases hv:9223372036854775807<Es 0 d
   ·rw[decide_eq_true hv]
    symm
    rw[Lm,decide_eq_false_iff_not]
    omega
   ·rw[decide_eq_false hv]
    symm
    rw[P4,decide_eq_true_eq]
    omega
  ·rw[decide_eq_false h19,Bool.false_and,P4]
   symm
   rw[decide_eq_true_eq]
   have hhi:=Xa d 0 h1
   have:10 ^ d.length<=10 ^ 18:=Nat.pow_le_pow_right (by decide) (by omega)
   omega
theorem At5(l:List UInt8)(acc:Nat):acc<=Es acc l:=by
 have:=Tz l acc
 have h:1<=10 ^ l.length:=Nat.one_le_pow _ _ (by decide)
 have:=Nat.mul_le_mul_left acc h
 omega
theorem pum:∀ (l:List UInt8) (acc:Nat),Ha l->Es acc l<=18446744073709551615->Lib.parseUintM 18446744073709551615 acc l=.ok (Es acc l)
 | [],_,_,_=>rfl
 | c::l,acc,h,hv=>by
  have hc:=Rf h
  have hge:=At5 l (acc*10+(c.toNat - 48))
  simp only[Pa,O9]at hv ⊢
  rw[Lib.parseUintM,if_pos hc,if_neg (by omega),if_neg (by omega)]
  exact pum l _ (M9 h) hv
theorem Alc{c:UInt8}{l:List UInt8}(h:Ha (c::l))(hv:Es 0 (c::l)<=9223372036854775807):Lib.parseIntB 64 (c::l)=.ok (Es 0 (c::l):Int):=by
 have hc:=Rf h
 have hp:=pum (c::l) 0 h (by omega)
 unfold Lib.parseIntB
 simp only
 rw[if_neg (by omega)]
 unfold Lib.parseUintB
 rw[if_neg (by simp),show(2 ^ 64 - 1:Nat)=18446744073709551615 by decide,hp]
 simp only
 rw[if_neg (by omega),if_neg (by omega),if_neg (by omega)]
theorem Aam{c:UInt8}{l:List UInt8}(h:Ha (c::l))(hv:Es 0 (c::l)<=9223372036854775807):Gj (c::l)=(Es 0 (c::l):Int):=by
 unfold Gj
 rw[Alc h hv]
theorem u8n{n:Nat}(h:n<256):(UInt8.ofNat n).toNat=n:=by simp[P2 h]
theorem Z6:∀ (k u:Nat),Ha (Fo k u)/\(u<10 ^ k->Es 0 (Fo k u)=u)/\(1<=k->Fo k u≠[])
 | 0,u=>⟨fun c h=>by simp[Fo]at h,fun h=>by simp at h;subst h;rfl,fun h=>by omega⟩
 | k+1,u=>by
  obtain⟨h1,h2,h3⟩:=Z6 k (u / 10)
  unfold Fo
  split
  ·rename_i hu
   have e:(UInt8.ofNat (48+u)).toNat=48+u:=u8n (by omega)
   refine⟨fun c hc=>?_,fun _=>?_,fun _=>by simp⟩
   ·rw[Mj]at hc
    subst hc
    unfold C1 Mb
    rw[e]
    simp
    omega
   ·simp only[Pa,O9,e]
    omega
  ·rename_i hu
   have e:(UInt8.ofNat (48+u % 10)).toNat=48+u % 10:=u8n (by omega)
   refine⟨fun c hc=>?_,fun hk=>?_,fun _=>by simp⟩
   ·rcases Ei.1 hc with hc | hc
    ·exact h1 c hc
    ·rw[Mj]at hc
     subst hc
     unfold C1 Mb
     rw[e]
     simp
     omega
   ·rw[Ahc,h2 (by rw[Zd]at hk;omega),e]
    omega
theorem Aix{n:Int}(hn:0<=n):Cz n=Fo 20 n.toNat:=by
 unfold Cz
 rw[if_neg (by omega)]
theorem Ax3:Im:=fun n hn=>by
 rw[Aix hn.1]
 obtain⟨h1,h2,h3⟩:=Z6 20 n.toNat
 have h20:(10:Nat) ^ 20=100000000000000000000:=by decide
 have hv:=h2 (by omega)
 match hd:Fo 20 n.toNat with
 | []=>exact absurd hd (h3 (by decide))
 | c::l=>
  rw[hd]at h1 hv
  rw[Aam h1 (by omega),hv]
  omega
theorem Ax4:Akr:=fun n hn=>by
 rw[Aix hn.1]
 obtain⟨h1,h2,h3⟩:=Z6 20 n.toNat
 have h20:(10:Nat) ^ 20=100000000000000000000:=by decide
 have hv:=h2 (by omega)
 refine⟨?_,by rw[Z5 h1,hv];simp;omega⟩
 match hd:Fo 20 n.toNat with
 | []=>exact absurd hd (h3 (by decide))
 | c::l=>
  rw[hd]at h1
  exact⟨c,l,rfl,h1 c Dm,M9 h1⟩
end Go.Proofs.YtcoeikinocflnaaGreatDoor.KM
