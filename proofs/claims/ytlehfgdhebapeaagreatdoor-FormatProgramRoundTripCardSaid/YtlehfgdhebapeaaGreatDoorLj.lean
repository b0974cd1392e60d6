/- Plain: parsed programs are shaped, and their texts are not too long. -/
import Derived.Test.YtlehfgdhebapeaaGreatDoorLi
set_option linter.all false
namespace Go.Proofs.YtlehfgdhebapeaaGreatDoor.KM
open Go
theorem init_le(n:Int):(initE n).length≤24:=by
 have:=itoa_le n
 unfold initE
 split
 ·simp
 ·simp only[List.length_cons];omega
theorem dlen{d:Dp}(h1:d.nm.length≤12)(h2:d.on.length≤12):(declE d).length≤80:=by
 have a1:=init_le d.init
 have a2:=itoa_le d.size
 have a3:(if d.size=0 then [] else 91::(itoaE d.size++[93])).length≤23:=by
  split
  ·simp
  ·simp;omega
 unfold declE
 split
 ·simp only[List.length_append,List.length_cons,List.length_nil];omega
 split
 ·simp only[List.length_append,List.length_cons,List.length_nil];omega
 split
 ·simp only[List.length_append,List.length_cons,List.length_nil];omega
 split
 ·simp only[List.length_append,List.length_cons,List.length_nil];omega
 split
 ·simp only[List.length_append,List.length_cons,List.length_nil];omega
 ·simp only[List.length_append,List.length_cons,List.length_nil];omega
def Le1(C:Nat)(ts r:List Tk):Prop:=r <:+ ts∧r.length≤ts.length∧wt C r≤wt C ts
theorem one_le{C:Nat}{ts r:List Tk}(h:One C ts r):Le1 C ts r:=⟨h.1,by have:=h.2.1;omega,by have:=h.2.2;omega⟩
theorem le_trans1{C:Nat}{a b c:List Tk}(h:Le1 C a b)(h':Le1 C b c):Le1 C a c:=⟨h'.1.trans h.1,Nat.le_trans h'.2.1 h.2.1,Nat.le_trans h'.2.2 h.2.2⟩
theorem le_refl1{C:Nat}(a:List Tk):Le1 C a a:=⟨List.suffix_refl _,Nat.le_refl _,Nat.le_refl _⟩
theorem is_le{s:List UInt8}{ts:List Tk}(C:Nat)(h:isT s ts=true):Le1 C ts ts.tail:=by
 obtain⟨h1,h2,h3⟩:=is_tail (C:=C) h
 exact⟨h1,by omega,by omega⟩
theorem pSize_le{C:Nat}{ts r:List Tk}{n:Int}(ht:TokOk ts)(h:pSize ts=some (n,r)):(0≤n∧n≤9223372036854775807)∧Le1 C ts r:=by
 unfold pSize at h
 split at h
 ·rename_i hs
  have u:=is_le C hs
  split at h
  ·cases h
  rename_i m q hq
  obtain⟨n1,n2⟩:=pNum_one (C:=C) (tok_suf ht u.1) hq
  split at h
  ·cases h
  simp only[Option.map_eq_some_iff]at h
  obtain⟨t3,h3,h⟩:=h
  cases h
  exact⟨n1,le_trans1 (le_trans1 u (one_le n2)) (one_le (pTok_one h3))⟩
 ·cases h
  exact⟨by omega,le_refl1 _⟩
theorem pInit_le{C:Nat}{ts r:List Tk}{n:Int}(ht:TokOk ts)(h:pInit ts=some (n,r)):(-9223372036854775808<n∧n≤9223372036854775807)∧Le1 C ts r:=by
 unfold pInit at h
 split at h
 ·rename_i hs
  have u:=is_le C hs
  split at h
  ·rename_i hs2
   have u2:=is_le C hs2
   simp only[Option.map_eq_some_iff]at h
   obtain⟨p,hp,h⟩:=h
   obtain⟨m,q⟩:=p
   cases h
   obtain⟨n1,n2⟩:=pNum_one (C:=C) (tok_suf (tok_suf ht u.1) u2.1) hp
   exact⟨by simp only;omega,le_trans1 (le_trans1 u u2) (one_le n2)⟩
  ·obtain⟨n1,n2⟩:=pNum_one (C:=C) (tok_suf ht u.1) h
   exact⟨by omega,le_trans1 u (one_le n2)⟩
 ·cases h
  exact⟨by omega,le_refl1 _⟩
def DQ(C:Nat)(ts:List Tk)(d:Dp)(r:List Tk):Prop:=ShD d∧r <:+ ts∧r.length<ts.length∧(declE d).length+2+wt C r≤wt C ts
theorem dq_mk{C:Nat}(hC:100≤C){t:Tk}{ts r:List Tk}{d:Dp}(h:ShD d)(hl:Le1 C ts r):DQ C (t::ts) d r:=by
 have h1:=nm_le h.nm
 have h2:d.on.length≤12:=by
  by_cases hk:d.kind=5
  ·exact nm_le (h.on.1 hk)
  ·rw[h.on.2 hk];exact Nat.zero_le _
 have h3:=dlen h1 h2
 have h4:=wt_cons C t ts
 exact⟨h,hl.1.trans (List.suffix_cons t ts),by have:=hl.2.1;simp only[List.length_cons];omega,by have:=hl.2.2;omega⟩
theorem pDecl_shape{C:Nat}(hC:100≤C){ts r:List Tk}{d:Dp}(ht:TokOk ts)(hd:isDecl ts=true)(h:pDecl ts=some (d,r)):DQ C ts d r:=by
 cases ts with
 | nil=>cases h
 | cons t ts=>
  have hk:1≤declT t.text∧declT t.text≤6:=by
   simp only[isDecl,Bool.and_eq_true,bne_iff_ne]at hd
   rcases decl_rng t.text with h | h
   ·exact absurd h hd.2
   ·exact h
  have htl:=tok_suf ht (List.suffix_cons t ts)
  rw[pDecl]at h
  generalize declT t.text=w at h hk
  split at h
  ·cases h
  rename_i nm t1 hn
  obtain⟨n1,n2⟩:=pName_one (C:=C) htl hn
  have n2:=one_le n2
  have ht1:=tok_suf htl n2.1
  split at h
  ·split at h
   ·cases h
   rename_i sz t2 hs
   obtain⟨s1,s2⟩:=pSize_le (C:=C) ht1 hs
   split at h
   ·cases h
   rename_i i t3 hi
   obtain⟨i1,i2⟩:=pInit_le (C:=C) (tok_suf ht1 s2.1) hi
   simp only[Option.map_eq_some_iff]at h
   obtain⟨t4,h4,h⟩:=h
   cases h
   exact dq_mk hC ⟨by simp,n1,by simp;exact s1,⟨i1.1,i1.2,by simp⟩,by simp⟩ (le_trans1 (le_trans1 (le_trans1 n2 s2) i2) (one_le (pTok_one h4)))
  split at h
  ·split at h
   ·cases h
   rename_i i t3 hi
   obtain⟨i1,i2⟩:=pInit_le (C:=C) ht1 hi
   simp only[Option.map_eq_some_iff]at h
   obtain⟨t4,h4,h⟩:=h
   cases h
   exact dq_mk hC ⟨by simp,n1,by simp,⟨i1.1,i1.2,by simp⟩,by simp⟩ (le_trans1 (le_trans1 n2 i2) (one_le (pTok_one h4)))
  split at h
  ·split at h
   ·cases h
   rename_i on t3 hi
   obtain⟨i1,i2⟩:=pName_one (C:=C) ht1 hi
   simp only[Option.map_eq_some_iff]at h
   obtain⟨t4,h4,h⟩:=h
   cases h
   exact dq_mk hC ⟨by simp,n1,by simp,by simp,by simpa using i1⟩ (le_trans1 (le_trans1 n2 (one_le i2)) (one_le (pTok_one h4)))
  ·rename_i q1 q2 q5
   simp only[Option.map_eq_some_iff]at h
   obtain⟨t4,h4,h⟩:=h
   cases h
   exact dq_mk hC ⟨hk,n1,⟨by simp,by simp,fun _=>rfl⟩,⟨by simp,by simp,fun _ _=>rfl⟩,fun h=>absurd h q5,fun _=>rfl⟩ (le_trans1 n2 (one_le (pTok_one h4)))
theorem join_cons(a:List UInt8)(l:List (List UInt8)):(joinE (a::l)).length≤a.length+2+(joinE l).length:=by
 cases l with
 | nil=>simp[joinE]
 | cons b l=>simp only[joinE,List.length_append,List.length_cons];omega
theorem pLoc_shape{C:Nat}(hC:100≤C):∀ (n:Nat) (ts:List Tk) (l:List (List UInt8)) (r:List Tk),TokOk ts→pLoc n ts=some (l,r)→(∀ s∈l,isNameE s=true)∧r <:+ ts∧r.length<ts.length∧(joinE l).length+wt C r≤wt C ts
 | 0,ts,l,r,ht,h=>by cases h
 | n+1,ts,l,r,ht,h=>by
  rw[pLoc]at h
  split at h
  ·cases h
  rename_i nm t1 hn
  obtain⟨n1,n2,n3,n4⟩:=pName_one (C:=C) ht hn
  have n5:=nm_le n1
  split at h
  ·rename_i hs
   obtain⟨u1,u2,u3⟩:=is_tail (C:=C) hs
   split at h
   ·cases h
   rename_i l' q hq
   obtain⟨e1,e2,e3,e4⟩:=pLoc_shape hC n _ _ _ (tok_suf (tok_suf ht n2) u1) hq
   cases h
   have:=join_cons nm l'
   refine⟨fun x hx=>?_,(e2.trans u1).trans n2,by omega,by omega⟩
   rcases List.mem_cons.1 hx with rfl | hx
   ·exact n1
   ·exact e1 x hx
  ·simp only[Option.map_eq_some_iff]at h
   obtain⟨t4,h4,h⟩:=h
   cases h
   obtain⟨d1,d2,d3⟩:=pTok_one (C:=C) h4
   refine⟨fun x hx=>?_,d1.trans n2,by omega,by simp only[joinE];omega⟩
   simp at hx
   subst hx
   exact n1
def ThQ(M C:Nat)(ts:List Tk)(t:Tp)(r:List Tk):Prop:=isNameE t.nm=true∧(∀ s∈t.locals,isNameE s=true)∧(∀ s∈t.body,ShS s)∧r <:+ ts∧r.length<ts.length∧Sp.szs t.body≤ts.length∧(thrE t).length+wt C r≤wt C ts
theorem pThr_shape{M C:Nat}(hC:100+8*M≤C){n:Nat}{ts r:List Tk}{t:Tp}(ht:TokOk ts)(hM:ts.length≤M)(h:pThr n ts=some (t,r)):ThQ M C ts t r:=by
 cases ts with
 | nil=>cases h
 | cons t0 ts=>
  have hw:=wt_cons C t0 ts
  have hsf:=List.suffix_cons t0 ts
  have htl:=tok_suf ht hsf
  rw[List.length_cons]at hM
  rw[pThr]at h
  split at h
  ·cases h
  rename_i nm t1 hn
  obtain⟨n1,n2,n3,n4⟩:=pName_one (C:=C) htl hn
  have n5:=nm_le n1
  have ht1:=tok_suf htl n2
  split at h
  ·cases h
  rename_i t2 h2
  obtain⟨c1,c2,c3⟩:=pTok_one (C:=C) h2
  have ht2:=tok_suf ht1 c1
  split at h
  ·cases h
  rename_i l t3 hl
  have hloc:(∀ s∈l,isNameE s=true)∧t3 <:+ t2∧t3.length≤t2.length∧(joinE l).length+wt C t3≤wt C t2:=by
   unfold pLocs at hl
   split at hl
   ·rename_i hs
    obtain⟨u1,u2,u3⟩:=is_tail (C:=C) hs
    cases hl
    exact⟨by simp,u1,by omega,by simp only[joinE,List.length_nil];omega⟩
   ·obtain⟨e1,e2,e3,e4⟩:=pLoc_shape (C:=C) (by omega) n _ _ _ ht2 hl
    exact⟨e1,e2,by omega,e4⟩
  obtain⟨l1,l2,l3,l4⟩:=hloc
  split at h
  ·cases h
  rename_i b t4 hb
  obtain⟨b1,b2,b3,b4,b5⟩:=(ps_shape hC n).2.1 _ _ _ (tok_suf ht2 l2) hb
  cases h
  have:=b5 1 (by omega)
  refine⟨n1,l1,b1,(((b2.trans l2).trans c1).trans n2).trans hsf,by simp only[List.length_cons];omega,by simp only[List.length_cons];omega,?_⟩
  unfold thrE
  simp only[List.length_append,List.length_cons,List.length_nil]
  omega
theorem scan_len:∀ (n:Nat) (ln:Int) (l:List UInt8) (ts:List Tk),scanE n ln l=some ts→ts.length≤l.length
 | n,ln,[],ts,h=>by
  have:scanE n ln []=some []:=by cases n<;>rfl
  rw[this]at h
  cases h
  exact Nat.le_refl _
 | 0,ln,c::r,ts,h=>by cases h
 | n+1,ln,c::r,ts,h=>by
  rw[scanE]at h
  split at h
  ·have:=scan_len n _ _ _ h
   simp only[List.length_cons];omega
  ·split at h
   ·have:=scan_len n _ _ _ h
    simp only[List.length_cons];omega
   ·split at h
    ·have h1:=scan_len n _ _ _ h
     have h2:=drop_le (· != 10) (c::r)
     omega
    ·split at h
     ·cases h
     ·rename_i k w hf
      simp only[Option.map_eq_some_iff]at h
      obtain⟨l,hl,rfl⟩:=h
      obtain⟨h1,q,h2⟩:=first_some hf
      have h3:=scan_len n _ _ _ hl
      rw[List.length_drop]at h3
      have:(c::r).length=w.length+q.length:=by rw[h2,List.length_append]
      simp only[List.length_cons]at this h3 ⊢
      omega
/-! programs that are equal apart from lines have one text -/
theorem same_idx:∀ {l l':List Xp},sameXs l l'=true→idxE l=idxE l'
 | [],[],_=>rfl
 | x::l,y::l',h=>by
  simp only[sameXs,Bool.and_eq_true]at h
  simp only[idxE,(same_toks x y h.1).2.2]
 | [],_::_,h=>by cases h
 | _::_,[],h=>by cases h
mutual
theorem same_sp:∀ (s s':Sp),sameS s s'=true→∀ d,s.txt d=s'.txt d
 | ⟨op,line,nm,arg,iz,it,idx,ex,bz,bt,body,ez,et,els⟩,⟨op',line',nm',arg',iz',it',idx',ex',bz',bt',body',ez',et',els'⟩,h,d=>by
  simp only[sameS,Bool.and_eq_true,beq_iff_eq]at h
  obtain⟨rfl,rfl,rfl,hx,hi,hb,he⟩:=h
  have h1:=(same_toks ex ex' hx).2.2
  have h2:=same_idx hi
  have h3:=same_sps body body' hb (d+1)
  have h4:=same_sps els els' he (d+1)
  rw[stxt_eq,stxt_eq]
  simp only[headE,h1,h2,h3.1,h4.1,h4.2]
theorem same_sps:∀ (l l':List Sp),sameSs l l'=true→∀ d,Sp.txts d l=Sp.txts d l'∧l.isEmpty=l'.isEmpty
 | [],[],_,d=>⟨rfl,rfl⟩
 | x::l,y::l',h,d=>by
  simp only[sameSs,Bool.and_eq_true]at h
  rw[stxts_cons,stxts_cons,same_sp x y h.1 d,(same_sps l l' h.2 d).1]
  exact⟨rfl,rfl⟩
 | [],_::_,h,_=>by cases h
 | _::_,[],h,_=>by cases h
end
end Go.Proofs.YtlehfgdhebapeaaGreatDoor.KM
