/- Plain: parsed programs are shaped, and their texts are not too long. -/
import Derived.Test.YtlehfgdhebapeaaGreatDoorLi
import Derived.Test.YtlehfgdhebapeaaGreatDoorHx
set_option linter.all false
namespace Go.Proofs.YtlehfgdhebapeaaGreatDoor.KM
open Go
def Mp(C:Nat)(ts r:List Tk):Prop:=r <:+ ts/\r.length<=ts.length/\wt C r<=wt C ts
theorem La{C:Nat}{ts r:List Tk}(h:U4 C ts r):Mp C ts r:=⟨h.1,by have:=h.2.1;omega,by have:=h.2.2;omega⟩
theorem Ij{C:Nat}{a b c:List Tk}(h:Mp C a b)(h':Mp C b c):Mp C a c:=⟨h'.1.trans h.1,Ed h'.2.1 h.2.1,Ed h'.2.2 h.2.2⟩
theorem Agx{C:Nat}(a:List Tk):Mp C a a:=⟨Yx _,Af _,Af _⟩
theorem Ab5{s:List UInt8}{ts:List Tk}(C:Nat)(h:Ak s ts=true):Mp C ts ts.tail:=by
 obtain⟨h1,h2,h3⟩:=I2 (C:=C) h
 exact⟨h1,by omega,by omega⟩
theorem Ao6{C:Nat}{ts r:List Tk}{n:Int}(ht:C0 ts)(h:Nw ts=some (n,r)):(0<=n/\n<=9223372036854775807)/\Mp C ts r:=by
 unfold Nw at h
 split at h
 ·rename_i hs
  have u:=Ab5 C hs
  split at h
  ·cases h
  rename_i m q hq
  obtain⟨n1,n2⟩:=Wk (C:=C) (Ce ht u.1) hq
  split at h
  ·cases h
  simp only[A8]at h
  obtain⟨t3,h3,h⟩:=h
  cases h
  exact⟨n1,Ij (Ij u (La n2)) (La (Ik h3))⟩
 ·cases h
  exact⟨by omega,Agx _⟩
theorem Agy{C:Nat}{ts r:List Tk}{n:Int}(ht:C0 ts)(h:Lf ts=some (n,r)):(-9223372036854775808<n/\n<=9223372036854775807)/\Mp C ts r:=by
 unfold Lf at h
 split at h
 ·rename_i hs
  have u:=Ab5 C hs
  split at h
  ·rename_i hs2
   have u2:=Ab5 C hs2
   simp only[A8]at h
   obtain⟨p,hp,h⟩:=h
   obtain⟨m,q⟩:=p
   cases h
   obtain⟨n1,n2⟩:=Wk (C:=C) (Ce (Ce ht u.1) u2.1) hp
   exact⟨by simp only;omega,Ij (Ij u u2) (La n2)⟩
  ·obtain⟨n1,n2⟩:=Wk (C:=C) (Ce ht u.1) h
   exact⟨by omega,Ij u (La n2)⟩
 ·cases h
  exact⟨by omega,Agx _⟩
def DQ(C:Nat)(ts:List Tk)(d:Dp)(r:List Tk):Prop:=ShD d/\r <:+ ts/\r.length<ts.length/\(Bq d).length+2+wt C r<=wt C ts
theorem X3{C:Nat}(hC:100<=C){t:Tk}{ts r:List Tk}{d:Dp}(h:ShD d)(hl:Mp C ts r):DQ C (t::ts) d r:=by
 have h1:=Pl h.nm
 have h2:d.on.length<=12:=by
  by_cases hk:d.kind=5
  ·exact Pl (h.on.1 hk)
  ·rw[h.on.2 hk];exact Bj _
 have h3:=Akj h1 h2
 have h4:=O8 C t ts
 exact⟨h,hl.1.trans (Oo t ts),by have:=hl.2.1;simp only[Ag];omega,by have:=hl.2.2;omega⟩
theorem Adu{C:Nat}(hC:100<=C){ts r:List Tk}{d:Dp}(ht:C0 ts)(hd:I3 ts=true)(h:Mf ts=some (d,r)):DQ C ts d r:=by
 cases ts with
 | nil=>cases h
 | cons t ts=>
  have hk:1<=Ff t.text/\Ff t.text<=6:=by
   simp only[I3,Ad,bne_iff_ne]at hd
   rcases Agw t.text with h | h
   ·exact absurd h hd.2
   ·exact h
  have htl:=Ce ht (Oo t ts)
  rw[Mf]at h
  generalize Ff t.text=w at h hk
  split at h
  ·cases h
  rename_i nm t1 hn
  obtain⟨n1,n2⟩:=Oz (C:=C) htl hn
  have n2:=La n2
  have ht1:=Ce htl n2.1
  split at h
  ·split at h
   ·cases h
   rename_i sz t2 hs
   obtain⟨s1,s2⟩:=Ao6 (C:=C) ht1 hs
   split at h
   ·cases h
   rename_i i t3 hi
   obtain⟨i1,i2⟩:=Agy (C:=C) (Ce ht1 s2.1) hi
   simp only[A8]at h
   obtain⟨t4,h4,h⟩:=h
   cases h
   exact X3 hC ⟨by simp,n1,by simp;exact s1,⟨i1.1,i1.2,by simp⟩,by simp⟩ (Ij (Ij (Ij n2 s2) i2) (La (Ik h4)))
  split at h
  ·split at h
   ·cases h
   rename_i i t3 hi
   obtain⟨i1,i2⟩:=Agy (C:=C) ht1 hi
   simp only[A8]at h
   obtain⟨t4,h4,h⟩:=h
   cases h
   exact X3 hC ⟨by simp,n1,by simp,⟨i1.1,i1.2,by simp⟩,by simp⟩ (Ij (Ij n2 i2) (La (Ik h4)))
  split at h
  ·split at h
   ·cases h
   rename_i on t3 hi
   obtain⟨i1,i2⟩:=Oz (C:=C) ht1 hi
   simp only[A8]at h
   obtain⟨t4,h4,h⟩:=h
   cases h
   exact X3 hC ⟨by simp,n1,by simp,by simp,by simpa using i1⟩ (Ij (Ij n2 (La i2)) (La (Ik h4)))
  ·rename_i q1 q2 q5
   simp only[A8]at h
   obtain⟨t4,h4,h⟩:=h
   cases h
   exact X3 hC ⟨hk,n1,⟨by simp,by simp,fun _=>rfl⟩,⟨by simp,by simp,fun _ _=>rfl⟩,fun h=>absurd h q5,fun _=>rfl⟩ (Ij n2 (La (Ik h4)))
theorem Adl{C:Nat}(hC:100<=C):∀ (n:Nat) (ts:List Tk) (l:List Dp) (r:List Tk),C0 ts->G7 n ts=some (l,r)->(∀ d∈l,ShD d)/\r <:+ ts/\((l.map fun d=>Bq d++[59,10]).flatten).length+wt C r<=wt C ts
 | 0,ts,l,r,ht,h=>by cases h
 | n+1,ts,l,r,ht,h=>by
  rw[G7]at h
  split at h
  ·rename_i hd
   split at h
   ·cases h
   rename_i d q hq
   obtain⟨d1,d2,d3,d4⟩:=Adu hC ht hd hq
   split at h
   ·cases h
   rename_i l' q' hq'
   obtain⟨e1,e2,e3⟩:=Adl hC n _ _ _ (Ce ht d2) hq'
   cases h
   refine⟨fun x hx=>?_,e2.trans d2,?_⟩
   ·rcases Bm.1 hx with rfl | hx
    ·exact d1
    ·exact e1 x hx
   ·simp only[Ao,Df,Al,Ag,Br]at e3 ⊢
    omega
  ·cases h
   exact⟨by simp,Yx _,by simp⟩
theorem Aeg{C:Nat}(hC:100<=C):∀ (n:Nat) (ts:List Tk) (l:List (List UInt8)) (r:List Tk),C0 ts->Hc n ts=some (l,r)->(∀ s∈l,Cx s=true)/\r <:+ ts/\r.length<ts.length/\(Ca l).length+wt C r<=wt C ts
 | 0,ts,l,r,ht,h=>by cases h
 | n+1,ts,l,r,ht,h=>by
  rw[Hc]at h
  split at h
  ·cases h
  rename_i nm t1 hn
  obtain⟨n1,n2,n3,n4⟩:=Oz (C:=C) ht hn
  have n5:=Pl n1
  split at h
  ·rename_i hs
   obtain⟨u1,u2,u3⟩:=I2 (C:=C) hs
   split at h
   ·cases h
   rename_i l' q hq
   obtain⟨e1,e2,e3,e4⟩:=Aeg hC n _ _ _ (Ce (Ce ht n2) u1) hq
   cases h
   have:=Afa nm l'
   refine⟨fun x hx=>?_,(e2.trans u1).trans n2,by omega,by omega⟩
   rcases Bm.1 hx with rfl | hx
   ·exact n1
   ·exact e1 x hx
  ·simp only[A8]at h
   obtain⟨t4,h4,h⟩:=h
   cases h
   obtain⟨d1,d2,d3⟩:=Ik (C:=C) h4
   refine⟨fun x hx=>?_,d1.trans n2,by omega,by simp only[Ca];omega⟩
   simp at hx
   subst hx
   exact n1
def ThQ(M C:Nat)(ts:List Tk)(t:Tp)(r:List Tk):Prop:=Cx t.nm=true/\(∀ s∈t.locals,Cx s=true)/\(∀ s∈t.body,ShS s)/\r <:+ ts/\r.length<ts.length/\Sp.szs t.body<=ts.length/\(Cs t).length+wt C r<=wt C ts
theorem Aeh{M C:Nat}(hC:100+8*M<=C){n:Nat}{ts r:List Tk}{t:Tp}(ht:C0 ts)(hM:ts.length<=M)(h:Mm n ts=some (t,r)):ThQ M C ts t r:=by
 cases ts with
 | nil=>cases h
 | cons t0 ts=>
  have hw:=O8 C t0 ts
  have hsf:=Oo t0 ts
  have htl:=Ce ht hsf
  rw[Ag]at hM
  rw[Mm]at h
  split at h
  ·cases h
  rename_i nm t1 hn
  obtain⟨n1,n2,n3,n4⟩:=Oz (C:=C) htl hn
  have n5:=Pl n1
  have ht1:=Ce htl n2
  split at h
  ·cases h
  rename_i t2 h2
  obtain⟨c1,c2,c3⟩:=Ik (C:=C) h2
  have ht2:=Ce ht1 c1
  split at h
  ·cases h
  rename_i l t3 hl
  have hloc:(∀ s∈l,Cx s=true)/\t3 <:+ t2/\t3.length<=t2.length/\(Ca l).length+wt C t3<=wt C t2:=by
   unfold Ur at hl
   split at hl
   ·rename_i hs
    obtain⟨u1,u2,u3⟩:=I2 (C:=C) hs
    cases hl
    exact⟨by simp,u1,by omega,by simp only[Ca,Br];omega⟩
   ·obtain⟨e1,e2,e3,e4⟩:=Aeg (C:=C) (by omega) n _ _ _ ht2 hl
    exact⟨e1,e2,by omega,e4⟩
  obtain⟨l1,l2,l3,l4⟩:=hloc
  split at h
  ·cases h
  rename_i b t4 hb
  obtain⟨b1,b2,b3,b4,b5⟩:=(Wl hC n).2.1 _ _ _ (Ce ht2 l2) hb
  cases h
  have:=b5 1 (by omega)
  refine⟨n1,l1,b1,(((b2.trans l2).trans c1).trans n2).trans hsf,by simp only[Ag];omega,by simp only[Ag];omega,?_⟩
  unfold Cs
  simp only[Al,Ag,Br]
  omega
theorem Adv{M C:Nat}(hC:100+8*M<=C)(m:Nat):∀ (n:Nat) (ts:List Tk) (l:List Tp) (r:List Tk),C0 ts->ts.length<=M->Hb m n ts=some (l,r) ->
  (∀ t∈l,Cx t.nm=true)/\(∀ t∈l,∀ s∈t.locals,Cx s=true)/\(∀ t∈l,∀ s∈t.body,ShS s)/\(∀ t∈l,Sp.szs t.body<=M)/\((l.map Cs).flatten).length+wt C r<=wt C ts
 | 0,ts,l,r,ht,hM,h=>by cases h
 | n+1,ts,l,r,ht,hM,h=>by
  rw[Hb]at h
  split at h
  ·split at h
   ·cases h
   rename_i t q hq
   obtain⟨d1,d2,d3,d4,d5,d6,d7⟩:=Aeh hC ht hM hq
   split at h
   ·cases h
   rename_i l' q' hq'
   obtain⟨e1,e2,e3,e4,e5⟩:=Adv hC m n _ _ _ (Ce ht d4) (by omega) hq'
   cases h
   refine⟨fun x hx=>?_,fun x hx=>?_,fun x hx=>?_,fun x hx=>?_,?_⟩
   ·rcases Bm.1 hx with rfl | hx
    ·exact d1
    ·exact e1 x hx
   ·rcases Bm.1 hx with rfl | hx
    ·exact d2
    ·exact e2 x hx
   ·rcases Bm.1 hx with rfl | hx
    ·exact d3
    ·exact e3 x hx
   ·rcases Bm.1 hx with rfl | hx
    ·omega
    ·exact e4 x hx
   ·simp only[Ao,Df,Al]
    omega
  ·cases h
   exact⟨by simp,by simp,by simp,by simp,by simp⟩
theorem Qy:∀ (n:Nat) (ln:Int) (l:List UInt8) (ts:List Tk),B7 n ln l=some ts->ts.length<=l.length
 | n,ln,[],ts,h=>by
  have:B7 n ln []=some []:=by cases n<;>rfl
  rw[this]at h
  cases h
  exact Af _
 | 0,ln,c::r,ts,h=>by cases h
 | n+1,ln,c::r,ts,h=>by
  rw[B7]at h
  split at h
  ·have:=Qy n _ _ _ h
   simp only[Ag];omega
  ·split at h
   ·have:=Qy n _ _ _ h
    simp only[Ag];omega
   ·split at h
    ·have h1:=Qy n _ _ _ h
     have h2:=T2 (· != 10) (c::r)
     omega
    ·split at h
     ·cases h
     ·rename_i k w hf
      simp only[A8]at h
      obtain⟨l,hl,rfl⟩:=h
      obtain⟨h1,q,h2⟩:=S1 hf
      have h3:=Qy n _ _ _ hl
      rw[D5]at h3
      have:(c::r).length=w.length+q.length:=by rw[h2,Al]
      simp only[Ag]at this h3 ⊢
      omega
theorem Adw{s:List UInt8}{p:Gp}(h:Pa s=some p):ShG p/\(D4 p).length<=1000000000/\∀ t∈p.thrs,Sp.szs t.body<=4096:=by
 unfold Pa at h
 split at h
 ·cases h
 rename_i hs
 split at h
 ·cases h
 rename_i ts ht
 have hl:=Qy _ _ _ _ ht
 have hok:=Q6 _ _ _ _ ht
 split at h
 rotate_left
 ·cases h
 rename_i p' hp
 cases h
 unfold Pj at hp
 split at hp
 ·cases hp
 rename_i ds r hd
 obtain⟨d1,d2,d3⟩:=Adl (C:=100+8*4096) (by omega) _ _ _ _ hok hd
 split at hp
 ·cases hp
 rename_i l r2 hth
 obtain⟨t1,t2,t3,t4,t5⟩:=Adv (M:=4096) (C:=100+8*4096) (Af _) _ _ _ _ _ (Ce hok d2) (by have:=d2.length_le;omega) hth
 split at hp
 ·cases hp
 rename_i hne
 cases hp
 refine⟨⟨d1,t1,t2,t3,by simpa using hne⟩,?_,t4⟩
 unfold D4
 rw[Al]
 simp only
 have:wt (100+8*4096) ts<=(100+8*4096)*4096:=Nat.mul_le_mul_left _ (by omega)
 omega
/-! programs that are equal apart from lines have one text -/
theorem Ao7:∀ {l l':List Xp},Cj l l'=true->Eh l=Eh l'
 | [],[],_=>rfl
 | x::l,y::l',h=>by
  simp only[Cj,Ad]at h
  simp only[Eh,(Zs x y h.1).2.2]
 | [],_::_,h=>by cases h
 | _::_,[],h=>by cases h
mutual
theorem Asl:∀ (s s':Sp),Ep s s'=true->∀ d,s.txt d=s'.txt d
 | ⟨op,line,nm,arg,iz,it,idx,ex,bz,bt,body,ez,et,els⟩,⟨op',line',nm',arg',iz',it',idx',ex',bz',bt',body',ez',et',els'⟩,h,d=>by
  simp only[Ep,Ad,beq_iff_eq]at h
  obtain⟨rfl,rfl,rfl,hx,hi,hb,he⟩:=h
  have h1:=(Zs ex ex' hx).2.2
  have h2:=Ao7 hi
  have h3:=Wm body body' hb (d+1)
  have h4:=Wm els els' he (d+1)
  rw[M9,M9]
  simp only[B6,h1,h2,h3.1,h4.1,h4.2]
theorem Wm:∀ (l l':List Sp),Cz l l'=true->∀ d,Sp.txts d l=Sp.txts d l'/\l.isEmpty=l'.isEmpty
 | [],[],_,d=>⟨rfl,rfl⟩
 | x::l,y::l',h,d=>by
  simp only[Cz,Ad]at h
  rw[J9,J9,Asl x y h.1 d,(Wm l l' h.2 d).1]
  exact⟨rfl,rfl⟩
 | [],_::_,h,_=>by cases h
 | _::_,[],h,_=>by cases h
end
theorem Aad{α:Type}{f:α->List UInt8}{R:α->α->Bool}(hR:∀ a b,R a b=true->f a=f b):∀ {l l':List α},l.length=l'.length->((l.zip l').all fun p=>R p.1 p.2)=true->(l.map f).flatten=(l'.map f).flatten
 | [],[],_,_=>rfl
 | x::l,y::l',h,h'=>by
  simp only[List.zip_cons_cons,Ar,Ad]at h'
  simp only[Ao,Df,hR x y h'.1,Aad hR (by simpa using h) h'.2]
 | [],_::_,h,_=>by cases h
 | _::_,[],h,_=>by cases h
theorem Am4{p q:Gp}(h:Fo p q=true):D4 p=D4 q:=by
 simp only[Fo,Ad,beq_iff_eq]at h
 obtain⟨⟨h1,h2⟩,h3,h4⟩:=h
 have hD:∀ a b:Dp,Ib a b=true->Bq a++[59,10]=Bq b++[59,10]:=fun a b h=>by
  unfold Ib at h
  simp only[Ad,beq_iff_eq]at h
  obtain⟨h1,h2,h3,h4,h5⟩:=h
  simp only[Bq,h1,h2,h3,h4,h5]
 have hT:∀ a b:Tp,Gs a b=true->Cs a=Cs b:=fun a b h=>by
  unfold Gs at h
  simp only[Ad,beq_iff_eq]at h
  obtain⟨h1,h2,h3⟩:=h
  simp only[Cs,h1,h2,(Wm _ _ h3 1).1]
 unfold D4
 rw[Aad hD h1 h2,Aad hT h3 h4]
end Go.Proofs.YtlehfgdhebapeaaGreatDoor.KM
