/- Plain: parsed programs are shaped, and their texts are not too long. -/
import Derived.Test.YtcoeikinocflnaaGreatDoorLi
import Derived.Test.YtcoeikinocflnaaGreatDoorHx
set_option linter.all false
namespace Go.Proofs.YtcoeikinocflnaaGreatDoor.KM
open Go
def Mh(C:Nat)(ts r:List Tk):Prop:=r <:+ ts/\r.length<=ts.length/\wt C r<=wt C ts
theorem K3{C:Nat}{ts r:List Tk}(h:Vc C ts r):Mh C ts r:=⟨h.1,by have:=h.2.1;omega,by have:=h.2.2;omega⟩
theorem Ib{C:Nat}{a b c:List Tk}(h:Mh C a b)(h':Mh C b c):Mh C a c:=⟨h'.1.trans h.1,Eo h'.2.1 h.2.1,Eo h'.2.2 h.2.2⟩
theorem Ahi{C:Nat}(a:List Tk):Mh C a a:=⟨Yz _,Ah _,Ah _⟩
theorem Acf{s:List UInt8}{ts:List Tk}(C:Nat)(h:Ai s ts=true):Mh C ts ts.tail:=by
 obtain⟨h1,h2,h3⟩:=I3 (C:=C) h
 exact⟨h1,by omega,by omega⟩
theorem Aqo{C:Nat}{ts r:List Tk}{n:Int}(ht:C0 ts)(h:Ni ts=some (n,r)):(0<=n/\n<=9223372036854775807)/\Mh C ts r:=by
 unfold Ni at h
 split at h
 ·rename_i hs
  have u:=Acf C hs
  split at h
  ·cases h
  rename_i m q hq
  obtain⟨n1,n2⟩:=Wx (C:=C) (B9 ht u.1) hq
  split at h
  ·cases h
  simp only[A0]at h
  obtain⟨t3,h3,h⟩:=h
  cases h
  exact⟨n1,Ib (Ib u (K3 n2)) (K3 (Ic h3))⟩
 ·cases h
  exact⟨by omega,Ahi _⟩
theorem Ahj{C:Nat}{ts r:List Tk}{n:Int}(ht:C0 ts)(h:La ts=some (n,r)):(-9223372036854775808<n/\n<=9223372036854775807)/\Mh C ts r:=by
 unfold La at h
 split at h
 ·rename_i hs
  have u:=Acf C hs
  split at h
  ·rename_i hs2
   have u2:=Acf C hs2
   simp only[A0]at h
   obtain⟨p,hp,h⟩:=h
   obtain⟨m,q⟩:=p
   cases h
   obtain⟨n1,n2⟩:=Wx (C:=C) (B9 (B9 ht u.1) u2.1) hp
   exact⟨by simp only;omega,Ib (Ib u u2) (K3 n2)⟩
  ·obtain⟨n1,n2⟩:=Wx (C:=C) (B9 ht u.1) h
   exact⟨by omega,Ib u (K3 n2)⟩
 ·cases h
  exact⟨by omega,Ahi _⟩
def DQ(C:Nat)(ts:List Tk)(d:Dp)(r:List Tk):Prop:=ShD d/\r <:+ ts/\r.length<ts.length/\(Up d).length+2+wt C r<=wt C ts
theorem Ya{C:Nat}(hC:100<=C){t:Tk}{ts r:List Tk}{d:Dp}(h:ShD d)(hl:Mh C ts r):DQ C (t::ts) d r:=by
 have h1:=Pl h.nm
 have h2:d.on.length<=12:=by
  by_cases hk:d.kind=5
  ·exact Pl (h.on.1 hk)
  ·rw[h.on.2 hk];exact A5 _
 have h3:=A2m h1 h2
 have h4:=O5 C t ts
 exact⟨h,hl.1.trans (Om t ts),by have:=hl.2.1;simp only[Af];omega,by have:=hl.2.2;omega⟩
theorem Aec{C:Nat}(hC:100<=C){ts r:List Tk}{d:Dp}(ht:C0 ts)(hd:I4 ts=true)(h:L7 ts=some (d,r)):DQ C ts d r:=by
 cases ts with
 | nil=>cases h
 | cons t ts=>
  have hk:1<=Ez t.text/\Ez t.text<=6:=by
   simp only[I4,Ae,bne_iff_ne]at hd
   rcases Ahh t.text with h | h
   ·exact absurd h hd.2
   ·exact h
  have htl:=B9 ht (Om t ts)
  rw[L7]at h
  generalize Ez t.text=w at h hk
  split at h
  ·cases h
  rename_i nm t1 hn
  obtain⟨n1,n2⟩:=Ov (C:=C) htl hn
  have n2:=K3 n2
  have ht1:=B9 htl n2.1
  split at h
  ·split at h
   ·cases h
   rename_i sz t2 hs
   obtain⟨s1,s2⟩:=Aqo (C:=C) ht1 hs
   split at h
   ·cases h
   rename_i i t3 hi
   obtain⟨i1,i2⟩:=Ahj (C:=C) (B9 ht1 s2.1) hi
   simp only[A0]at h
   obtain⟨t4,h4,h⟩:=h
   cases h
   exact Ya hC ⟨by simp,n1,by simp;exact s1,⟨i1.1,i1.2,by simp⟩,by simp⟩ (Ib (Ib (Ib n2 s2) i2) (K3 (Ic h4)))
  split at h
  ·split at h
   ·cases h
   rename_i i t3 hi
   obtain⟨i1,i2⟩:=Ahj (C:=C) ht1 hi
   simp only[A0]at h
   obtain⟨t4,h4,h⟩:=h
   cases h
   exact Ya hC ⟨by simp,n1,by simp,⟨i1.1,i1.2,by simp⟩,by simp⟩ (Ib (Ib n2 i2) (K3 (Ic h4)))
  split at h
  ·split at h
   ·cases h
   rename_i on t3 hi
   obtain⟨i1,i2⟩:=Ov (C:=C) ht1 hi
   simp only[A0]at h
   obtain⟨t4,h4,h⟩:=h
   cases h
   exact Ya hC ⟨by simp,n1,by simp,by simp,by simpa using i1⟩ (Ib (Ib n2 (K3 i2)) (K3 (Ic h4)))
  ·rename_i q1 q2 q5
   simp only[A0]at h
   obtain⟨t4,h4,h⟩:=h
   cases h
   exact Ya hC ⟨hk,n1,⟨by simp,by simp,fun _=>rfl⟩,⟨by simp,by simp,fun _ _=>rfl⟩,fun h=>absurd h q5,fun _=>rfl⟩ (Ib n2 (K3 (Ic h4)))
theorem Ad4{C:Nat}(hC:100<=C):∀ (n:Nat) (ts:List Tk) (l:List Dp) (r:List Tk),C0 ts->Gy n ts=some (l,r)->(∀ d∈l,ShD d)/\r <:+ ts/\((l.map fun d=>Up d++[59,10]).flatten).length+wt C r<=wt C ts
 | 0,ts,l,r,ht,h=>by cases h
 | n+1,ts,l,r,ht,h=>by
  rw[Gy]at h
  split at h
  ·rename_i hd
   split at h
   ·cases h
   rename_i d q hq
   obtain⟨d1,d2,d3,d4⟩:=Aec hC ht hd hq
   split at h
   ·cases h
   rename_i l' q' hq'
   obtain⟨e1,e2,e3⟩:=Ad4 hC n _ _ _ (B9 ht d2) hq'
   cases h
   refine⟨fun x hx=>?_,e2.trans d2,?_⟩
   ·rcases Br.1 hx with rfl | hx
    ·exact d1
    ·exact e1 x hx
   ·simp only[A1,Ea,Aj,Af,Cf]at e3 ⊢
    omega
  ·cases h
   exact⟨by simp,Yz _,by simp⟩
theorem Aev{C:Nat}(hC:100<=C):∀ (n:Nat) (ts:List Tk) (l:List (List UInt8)) (r:List Tk),C0 ts->G8 n ts=some (l,r)->(∀ s∈l,Dz s=true)/\r <:+ ts/\r.length<ts.length/\(K8 l).length+wt C r<=wt C ts
 | 0,ts,l,r,ht,h=>by cases h
 | n+1,ts,l,r,ht,h=>by
  rw[G8]at h
  split at h
  ·cases h
  rename_i nm t1 hn
  obtain⟨n1,n2,n3,n4⟩:=Ov (C:=C) ht hn
  have n5:=Pl n1
  split at h
  ·rename_i hs
   obtain⟨u1,u2,u3⟩:=I3 (C:=C) hs
   split at h
   ·cases h
   rename_i l' q hq
   obtain⟨e1,e2,e3,e4⟩:=Aev hC n _ _ _ (B9 (B9 ht n2) u1) hq
   cases h
   have:=An2 nm l'
   refine⟨fun x hx=>?_,(e2.trans u1).trans n2,by omega,by omega⟩
   rcases Br.1 hx with rfl | hx
   ·exact n1
   ·exact e1 x hx
  ·simp only[A0]at h
   obtain⟨t4,h4,h⟩:=h
   cases h
   obtain⟨d1,d2,d3⟩:=Ic (C:=C) h4
   refine⟨fun x hx=>?_,d1.trans n2,by omega,by simp only[K8];omega⟩
   simp at hx
   subst hx
   exact n1
def ThQ(M C:Nat)(ts:List Tk)(t:Tp)(r:List Tk):Prop:=Dz t.nm=true/\(∀ s∈t.locals,Dz s=true)/\(∀ s∈t.body,ShS s)/\r <:+ ts/\r.length<ts.length/\Sp.szs t.body<=ts.length/\(Ja t).length+wt C r<=wt C ts
theorem Aew{M C:Nat}(hC:100+8*M<=C){n:Nat}{ts r:List Tk}{t:Tp}(ht:C0 ts)(hM:ts.length<=M)(h:Md n ts=some (t,r)):ThQ M C ts t r:=by
 cases ts with
 | nil=>cases h
 | cons t0 ts=>
  have hw:=O5 C t0 ts
  have hsf:=Om t0 ts
  have htl:=B9 ht hsf
  rw[Af]at hM
  rw[Md]at h
  split at h
  ·cases h
  rename_i nm t1 hn
  obtain⟨n1,n2,n3,n4⟩:=Ov (C:=C) htl hn
  have n5:=Pl n1
  have ht1:=B9 htl n2
  split at h
  ·cases h
  rename_i t2 h2
  obtain⟨c1,c2,c3⟩:=Ic (C:=C) h2
  have ht2:=B9 ht1 c1
  split at h
  ·cases h
  rename_i l t3 hl
  have hloc:(∀ s∈l,Dz s=true)/\t3 <:+ t2/\t3.length<=t2.length/\(K8 l).length+wt C t3<=wt C t2:=by
   unfold Ur at hl
   split at hl
   ·rename_i hs
    obtain⟨u1,u2,u3⟩:=I3 (C:=C) hs
    cases hl
    exact⟨by simp,u1,by omega,by simp only[K8,Cf];omega⟩
   ·obtain⟨e1,e2,e3,e4⟩:=Aev (C:=C) (by omega) n _ _ _ ht2 hl
    exact⟨e1,e2,by omega,e4⟩
  obtain⟨l1,l2,l3,l4⟩:=hloc
  split at h
  ·cases h
  rename_i b t4 hb
  obtain⟨b1,b2,b3,b4,b5⟩:=(Wy hC n).2.1 _ _ _ (B9 ht2 l2) hb
  cases h
  have:=b5 1 (by omega)
  refine⟨n1,l1,b1,(((b2.trans l2).trans c1).trans n2).trans hsf,by simp only[Af];omega,by simp only[Af];omega,?_⟩
  unfold Ja
  simp only[Aj,Af,Cf]
  omega
theorem Aed{M C:Nat}(hC:100+8*M<=C)(m:Nat):∀ (n:Nat) (ts:List Tk) (l:List Tp) (r:List Tk),C0 ts->ts.length<=M->G5 m n ts=some (l,r) ->
  (∀ t∈l,Dz t.nm=true)/\(∀ t∈l,∀ s∈t.locals,Dz s=true)/\(∀ t∈l,∀ s∈t.body,ShS s)/\(∀ t∈l,Sp.szs t.body<=M)/\((l.map Ja).flatten).length+wt C r<=wt C ts
 | 0,ts,l,r,ht,hM,h=>by cases h
 | n+1,ts,l,r,ht,hM,h=>by
  rw[G5]at h
  split at h
  ·split at h
   ·cases h
   rename_i t q hq
   obtain⟨d1,d2,d3,d4,d5,d6,d7⟩:=Aew hC ht hM hq
   split at h
   ·cases h
   rename_i l' q' hq'
   obtain⟨e1,e2,e3,e4,e5⟩:=Aed hC m n _ _ _ (B9 ht d4) (by omega) hq'
   cases h
   refine⟨fun x hx=>?_,fun x hx=>?_,fun x hx=>?_,fun x hx=>?_,?_⟩
   ·rcases Br.1 hx with rfl | hx
    ·exact d1
    ·exact e1 x hx
   ·rcases Br.1 hx with rfl | hx
    ·exact d2
    ·exact e2 x hx
   ·rcases Br.1 hx with rfl | hx
    ·exact d3
    ·exact e3 x hx
   ·rcases Br.1 hx with rfl | hx
    ·omega
    ·exact e4 x hx
   ·simp only[A1,Ea,Aj]
    omega
  ·cases h
   exact⟨by simp,by simp,by simp,by simp,by simp⟩
theorem Qy:∀ (n:Nat) (ln:Int) (l:List UInt8) (ts:List Tk),B1 n ln l=some ts->ts.length<=l.length
 | n,ln,[],ts,h=>by
  have:B1 n ln []=some []:=by cases n<;>rfl
  rw[this]at h
  cases h
  exact Ah _
 | 0,ln,c::r,ts,h=>by cases h
 | n+1,ln,c::r,ts,h=>by
  rw[B1]at h
  split at h
  ·have:=Qy n _ _ _ h
   simp only[Af];omega
  ·split at h
   ·have:=Qy n _ _ _ h
    simp only[Af];omega
   ·split at h
    ·have h1:=Qy n _ _ _ h
     have h2:=Ty (· != 10) (c::r)
     omega
    ·split at h
     ·cases h
     ·rename_i k w hf
      simp only[A0]at h
      obtain⟨l,hl,rfl⟩:=h
      obtain⟨h1,q,h2⟩:=Ss hf
      have h3:=Qy n _ _ _ hl
      rw[C5]at h3
      have:(c::r).length=w.length+q.length:=by rw[h2,Aj]
      simp only[Af]at this h3 ⊢
      omega
theorem Ama{s:List UInt8}{p:Gp}(h:M8 s=some p):ShG p/\(Uq p).length<=1000000000/\∀ t∈p.thrs,Sp.szs t.body<=4096:=by
 unfold M8 at h
 split at h
 ·cases h
 rename_i hs
 split at h
 ·cases h
 rename_i ts ht
 have hl:=Qy _ _ _ _ ht
 have hok:=Ra _ _ _ _ ht
 split at h
 rotate_left
 ·cases h
 rename_i p' hp
 cases h
 unfold Pj at hp
 split at hp
 ·cases hp
 rename_i ds r hd
 obtain⟨d1,d2,d3⟩:=Ad4 (C:=100+8*4096) (by omega) _ _ _ _ hok hd
 split at hp
 ·cases hp
 rename_i l r2 hth
 obtain⟨t1,t2,t3,t4,t5⟩:=Aed (M:=4096) (C:=100+8*4096) (Ah _) _ _ _ _ _ (B9 hok d2) (by have:=d2.length_le;omega) hth
 split at hp
 ·cases hp
 rename_i hne
 cases hp
 refine⟨⟨d1,t1,t2,t3,by simpa using hne⟩,?_,t4⟩
 unfold Uq
 rw[Aj]
 simp only
 have:wt (100+8*4096) ts<=(100+8*4096)*4096:=Nat.mul_le_mul_left _ (by omega)
 omega
/-! programs that are equal apart from lines have one text -/
theorem Aqp:∀ {l l':List Xp},F9 l l'=true->El l=El l'
 | [],[],_=>rfl
 | x::l,y::l',h=>by
  simp only[F9,Ae]at h
  simp only[El,(Z4 x y h.1).2.2]
 | [],_::_,h=>by cases h
 | _::_,[],h=>by cases h
mutual
theorem Aiy:∀ (s s':Sp),Nl s s'=true->∀ d,s.txt d=s'.txt d
 | ⟨op,line,nm,arg,iz,it,idx,ex,bz,bt,body,ez,et,els⟩,⟨op',line',nm',arg',iz',it',idx',ex',bz',bt',body',ez',et',els'⟩,h,d=>by
  simp only[Nl,Ae,beq_iff_eq]at h
  obtain⟨rfl,rfl,rfl,hx,hi,hb,he⟩:=h
  have h1:=(Z4 ex ex' hx).2.2
  have h2:=Aqp hi
  have h3:=Aan body body' hb (d+1)
  have h4:=Aan els els' he (d+1)
  rw[Ig,Ig]
  simp only[Bv,h1,h2,h3.1,h4.1,h4.2]
theorem Aan:∀ (l l':List Sp),Fl l l'=true->∀ d,Sp.txts d l=Sp.txts d l'/\l.isEmpty=l'.isEmpty
 | [],[],_,d=>⟨rfl,rfl⟩
 | x::l,y::l',h,d=>by
  simp only[Fl,Ae]at h
  rw[J5,J5,Aiy x y h.1 d,(Aan l l' h.2 d).1]
  exact⟨rfl,rfl⟩
 | [],_::_,h,_=>by cases h
 | _::_,[],h,_=>by cases h
end
end Go.Proofs.YtcoeikinocflnaaGreatDoor.KM
