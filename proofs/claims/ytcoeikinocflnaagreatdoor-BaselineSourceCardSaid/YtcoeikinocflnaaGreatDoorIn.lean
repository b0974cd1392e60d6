/- Walks: the maker of programs: threads under way. -/
import Derived.Test.YtcoeikinocflnaaGreatDoorIj
set_option linter.all false
namespace Go.Proofs.YtcoeikinocflnaaGreatDoor.KM
open Go
theorem Mx{σ τ:St}{m e lo:Nat}{u:V}{xs:List (List V)}(h:GW σ m e lo u xs)(hk:∀ i∈u.refs,τ[i]?=σ[i]?):GW τ m e lo u xs:=by
 rcases h with h | ⟨hn,i,g,h,ho,hlo⟩
 ·exact .inl h
 ·exact .inr ⟨hn,i,g,h,by rw[hk i (by rw[h];simp[V.refs])];exact ho,hlo⟩
theorem Et{σ:St}{m e lo:Nat}{u:V}{xs:List (List V)}(h:GW σ m e lo u xs):∀ i∈u.refs,lo<=i/\i<σ.length:=by
 intro j hj;rcases h with⟨rfl,-⟩ | ⟨hn,i,g,rfl,ho,hlo⟩
 ·simp[V.refs]at hj
 ·simp[V.refs]at hj;subst hj;exact⟨hlo,(Ar.1 ho).1⟩
theorem Ayo{σ:St}{m e:Nat}{u:V}{xs:List (List V)}(h:GS σ m e u xs):Ft σ m u=some xs:=by
 obtain⟨⟨hl,hr⟩,h⟩:=h;rcases h with⟨rfl,rfl⟩ | ⟨i,g,r,q,rfl,ho,hq,hrr⟩
 ·rfl
 ·simp only[Ft,ho];rw[if_pos ⟨trivial,trivial,by rw[Ao,J7 hl];omega⟩,O0,Aat m xs r hl]
theorem Ari(a:List V)(k:Nat):∀ i∈Aj (a.take k),i∈Aj a:=by
 intro i hi;have:=Iw (a.take k) (a.drop k);rw[Lh]at this;rw[this];exact Ov _ hi
theorem Arj(a:List V)(k:Nat):∀ i∈Aj (a.drop k),i∈Aj a:=by
 intro i hi;have:=Iw (a.take k) (a.drop k);rw[Lh]at this;rw[this];exact List.mem_append_right _ hi
theorem Yl{σ σ':St}{m e bytes:Nat}{u u' y:V}{ys:List (List V)}(ha:Eu bytes (m,e) u y σ=some (u',σ'))(hy:Ft σ m y=some ys)(hr:∀ r∈ys,r.all V.rowB=true)(hu:u=.nils\/∃ i g len,u=.sl i g 0 len m true):(∀ j∈u'.refs,j∈u.refs\/σ.length<=j)/\(Cl σ->Cl σ'):=by
 have hf:Aj ys.flatten=[]:=Iu (J9 hr);unfold Eu at ha;simp only[hy,Cz]at ha;unfold I5 at ha
 split at ha
 ·rcases hu with rfl | ⟨i,g,len,rfl⟩
  ·simp only at ha
   split at ha
   ·split at ha
    ·cases ha;exact⟨fun j hj=>.inl hj,id⟩
    ·cases ha;refine⟨fun j hj=>.inr (by simp[V.refs]at hj;omega),fun hc=>Pe hc ?_⟩;simp[Ob.refs,hf]
   ·cases ha
  ·simp only at ha
   split at ha
   ·split at ha
    ·rename_i cs e' g' z ho;have hi:=(Ar.1 ho).1;have hm:=Gq ho
     split at ha
     ·split at ha
      ·cases ha;exact⟨fun j hj=>.inl hj,id⟩
      ·split at ha
       ·split at ha
        ·cases ha;refine⟨fun j hj=>.inl hj,fun hc=>Ge hc fun j hj=>?_⟩;simp only[Ob.refs,Iw,hf,Cw,Cq]at hj;rcases hj with hj | hj
         ·exact hc _ hm j (Ari _ _ _ hj)
         ·exact hc _ hm j (Arj _ _ _ hj)
        ·split at ha
         ·cases ha;refine⟨fun j hj=>.inl hj,fun hc=>Ge hc fun j hj=>?_⟩;simp only[Ob.refs,Iw,hf,Cw]at hj;exact hc _ hm j hj
         ·cases ha
       ·cases ha
     ·cases ha
    ·cases ha
   ·cases ha
 ·cases ha
theorem Abh{σ:St}{m e lo:Nat}{u:V}{xs:List (List V)}(h:GW σ m e lo u xs):u=.nils\/∃ i g len,u=.sl i g 0 len m true:=by
 rcases h with⟨rfl,-⟩ | ⟨hn,i,g,rfl,-⟩
 ·exact .inl rfl
 ·exact .inr ⟨i,g,_,rfl⟩
theorem Un{σ:St}{m e lo bytes:Nat}{u y:V}{xs ys:List (List V)}(h:GW σ m e lo u xs)(hlo0:lo<=σ.length)(hy:Ft σ m y=some ys)(hm:0<m)(hl:∀ r∈xs,r.length=m)(hly:∀ r∈ys,r.length=m)(hr:∀ r∈ys,r.all V.rowB=true)(hb:(xs.length+ys.length)*bytes<=140737488355328):
  ∃ u' σ',Eu bytes (m,e) u y σ=some (u',σ')/\GW σ' m e lo u' (xs++ys)/\σ.length<=σ'.length/\(∀ j,j<σ.length->j ∉ u.refs->σ'[j]?=σ[j]?)/\(∀ j∈u'.refs,j∈u.refs\/σ.length<=j)/\(Cl σ->Cl σ'):=by
 obtain⟨u',σ',h1,h2,h3,h4,-⟩:=Pj h hlo0 hy hm hl hly hb;obtain⟨h5,h6⟩:=Yl h1 hy hr (Abh h);refine⟨u',σ',h1,h2,h3,fun j hj hn=>h4 j (fun i g hu e=>hn ?_) hj,h5,h6⟩;rw[hu,e];simp[V.refs]
theorem Ao6{σ:St}{lo e:Nat}{u loc:V}{B:List Sp}(h:GW σ 11 e lo u (B.map Sp.row))(hb:loc.rowB=true)(nm:List UInt8)(ln:Int):
  ∃ σ',N2 4 1 σ [.str nm,.int .i64 ln,loc,u]=some (.lst 1 [[.str nm,.int .i64 ln,loc,SL true 0 (B.map Sp.row)]],σ')/\σ'.length=σ.length/\(∀ j,j ∉ u.refs->σ'[j]?=σ[j]?)/\(Cl σ->Cl σ'):=by
 have hl:∀ r∈B.map Sp.row,r.length=11:=fun r hr=>by obtain⟨x,-,rfl⟩:=D6.1 hr;exact Lp x
 have hs:∀ r∈B.map Sp.row,r.all V.rowB=true:=fun r hr=>by obtain⟨x,-,rfl⟩:=D6.1 hr;exact Fi x
 have hoc:=N3 h (by omega) hl hs;have hr:Aj [V.str nm,V.int .i64 ln,loc,u]=u.refs:=by simp[Aj,V.refs,Tm hb]
 have hs2:=hoc (E3 σ 9 u.refs.eraseDups) (fun i hi=>Q4 σ 9 _ i (V7.2 hi)) 7;have hi:∀ v:V,v.rowB=true->Fd σ (E3 σ 9 u.refs.eraseDups) 9 v=some v:=fun v hv=>O2 hv
 unfold N2;rw[hr];simp only[Hs,Wg,hi (.str nm) rfl,hi (.int .i64 ln) rfl,hi loc hb,hs2];refine⟨_,rfl,Mg _ _,fun j hj=>Rp _ _ _ fun hm=>?_,Sa _ _⟩;rcases h with⟨rfl,-⟩ | ⟨hn,i,g,rfl,ho,hlo⟩
 ·simp[V.refs,E3]at hm
 ·have:E3 σ 9 (V.refs (.sl i g 0 (B.map Sp.row).length 11 true)).eraseDups=[i]:=by
   have e1:(V.refs (.sl i g 0 (B.map Sp.row).length 11 true)).eraseDups=[i]:=by simp[V.refs,List.eraseDups_cons]
   rw[e1];have hx:Aj (B.map Sp.row).flatten=[]:=Iu (J9 hs);simp[E3,ho,Ob.refs,hx]
  rw[this]at hm;exact hj (by simpa[V.refs] using hm)
structure PW (s:St) (u2:V) (L:List Tp):Prop where
 hk:∃ uH,MKr s 2 1 uH []
 l5:5<=s.length
 z:s[0]?=some (.row [.nils,.nils] 27 0 0)
 d:s[3]?=some (.row (declsL.map Dp.row).flatten 87 0 0)
 p:s[4]?=some (.row [.sl 3 0 0 9 6 true,u2] 27 0 0)
 n0:0 ∉ fp s 2
 n3:3 ∉ fp s 2
 n4:4 ∉ fp s 2
 g:GW s 4 91 5 u2 (L.map Tp.row)
 gn:∀ j∈u2.refs,j ∉ fp s 2
theorem Y3{s s':St}{u2 uH:V}{L:List Tp}(h:PW s u2 L)(hk:MKr s' 2 1 uH [])(w:FW 2 s s'):PW s' u2 L:=by
 obtain⟨z,n0⟩:=Gu w h.z h.n0;obtain⟨d,n3⟩:=Gu w h.d h.n3;obtain⟨p,n4⟩:=Gu w h.p h.n4;refine⟨⟨_,hk⟩,Cj h.l5 w.1,z,d,p,n0,n3,n4,Mx h.g fun i hi=>w.2.1 i (Et h.g i hi).2 (h.gn i hi),fun j hj hm=>?_⟩;rcases w.2.2 j hm with h2 | h2
 ·exact h.gn j hj h2
 ·have:=(Et h.g j hj).2;omega
theorem U2{s:St}{u2:V}{L:List Tp}(h:PW s u2 L):∃ (th left:Int) (se tx ao lp:Bool) (uH:V),s[2]?=some (.row [.ptr 1 0 0,.int .i64 th,.int .i64 left,.bool se,.bool tx,.bool ao,.bool lp,uH] 98 0 0) /\
  ∀ (th left:Int) (se tx ao lp:Bool),PW (s.set 2 (.row [.ptr 1 0 0,.int .i64 th,.int .i64 left,.bool se,.bool tx,.bool ao,.bool lp,uH] 98 0 0)) u2 L:=by
 obtain⟨uH,hk⟩:=h.hk;obtain⟨th,left,se,tx,ao,lp,hr⟩:=hk.row;refine⟨th,left,se,tx,ao,lp,uH,hr,fun th left se tx ao lp=>?_⟩;obtain⟨h1,h2⟩:=Aks hk th left se tx ao lp;exact Y3 h h1 h2
structure TH (s0 s:St) (nm:List UInt8) (u2:V) (L:List Tp) (uB:V) (B:List Sp):Prop where
 pw:PW s u2 L
 c5:5<=s0.length
 r:s[s0.length]?=some (.row [.str nm,.int .i64 0,.lst 1 [[.str [97]],[.str [98]]],uB] 91 0 0)
 n:s0.length ∉ fp s 2
 g:GW s 11 105 (s0.length+1) uB (B.map Sp.row)
 gn:∀ j∈uB.refs,j ∉ fp s 2
 u2l:∀ j∈u2.refs,j<s0.length
theorem Ayp{s:St}{u2:V}{L:List Tp}(h:PW s u2 L)(nm:List UInt8):TH s (s++[.row [.str nm,.int .i64 0,.lst 1 [[.str [97]],[.str [98]]],.nils] 91 0 0]) nm u2 L .nils []:=by
 obtain⟨uH,hk⟩:=h.hk;obtain⟨h1,h2⟩:=X0 hk [.row [.str nm,.int .i64 0,.lst 1 [[.str [97]],[.str [98]]],.nils] 91 0 0] (Gv hk.cl rfl);refine⟨Y3 h h1 h2,h.l5,by simp,fun hm=>?_,F4,by simp[V.refs],fun j hj=>(Et h.g j hj).2⟩;rw[Fx h1,<-Fx hk]at hm;exact Yh (τ:=s) hk (Ah _) hm
theorem Adj{s0 s s':St}{nm:List UInt8}{u2 uB uH:V}{L:List Tp}{B:List Sp}(h:TH s0 s nm u2 L uB B)(hk:MKr s' 2 1 uH [])(w:FW 2 s s'):TH s0 s' nm u2 L uB B:=by
 obtain⟨r,n⟩:=Gu w h.r h.n;refine⟨Y3 h.pw hk w,h.c5,r,n,Mx h.g fun i hi=>w.2.1 i (Et h.g i hi).2 (h.gn i hi),fun j hj hm=>?_,h.u2l⟩;rcases w.2.2 j hm with h2 | h2
 ·exact h.gn j hj h2
 ·have:=(Et h.g j hj).2;omega
theorem Alu{s0 s:St}{nm:List UInt8}{u2 uB:V}{L:List Tp}{B:List Sp}(h:TH s0 s nm u2 L uB B):s0.length<s.length:=(Ar.1 h.r).1
theorem Ah7(B:List Sp):∀ r∈B.map Sp.row,r.length=11:=fun r hr=>by obtain⟨x,-,rfl⟩:=D6.1 hr;exact Lp x
theorem Ark(B:List Sp):∀ r∈B.map Sp.row,r.all V.rowB=true:=fun r hr=>by obtain⟨x,-,rfl⟩:=D6.1 hr;exact Fi x
theorem Aco{s0 s:St}{nm:List UInt8}{u2 uB y:V}{L:List Tp}{B C:List Sp}(h:TH s0 s nm u2 L uB B)(hy:Ft s 11 y=some (C.map Sp.row))(hb:B.length+C.length<=1000000):
  ∃ uB' s',Eu 176 (11,105) uB y s=some (uB',s')/\(uB'.cells=[uB']/\[uB'].all V.cellB=true/\uB'.cellB=true)/\s'[s0.length]?=some (.row [.str nm,.int .i64 0,.lst 1 [[.str [97]],[.str [98]]],uB] 91 0 0)/\s'[2]?=s[2]? /\
   TH s0 (s'.set s0.length (.row [.str nm,.int .i64 0,.lst 1 [[.str [97]],[.str [98]]],uB'] 91 0 0)) nm u2 L uB' (B++C):=by
 obtain⟨uH,hk⟩:=h.pw.hk;have hl:=Alu h;obtain⟨uB',s',e1,g,hlen,hB,hr,hc⟩:=Un (bytes:=176) h.g hl hy (by omega) (Ah7 B) (Ah7 C) (Ark C) (by rw[Bl,Bl];omega);have hf:=Fx hk
 have hfl:∀ j∈fp s 2,j<s.length:=fun j hj=>by
  rw[hf]at hj;simp only[Be]at hj;rcases hj with rfl | rfl | hj
  ·exact H3 hk
  ·exact L0 hk.tape
  ·exact Ch hk.h j hj
 have kp:∀ j∈fp s 2,s'[j]?=s[j]?:=fun j hj=>hB j (hfl j hj) fun e=>h.gn j e hj
 have k2:s'[2]?=s[2]?:=kp 2 (by rw[hf];simp);have klo:∀ j,j<=s0.length->s'[j]?=s[j]?:=fun j hj=>hB j (by omega) fun e=>by have:=(Et h.g j e).1;omega
 have hn:=h.n;have c5:=h.c5;have knew:∀ j,j≠s0.length->(s'.set s0.length (.row [.str nm,.int .i64 0,.lst 1 [[.str [97]],[.str [98]]],uB'] 91 0 0))[j]?=s'[j]?:=fun j hj=>Bc (Ne.symm hj)
 have ks:∀ j∈fp s 2,(s'.set s0.length (.row [.str nm,.int .i64 0,.lst 1 [[.str [97]],[.str [98]]],uB'] 91 0 0))[j]?=s[j]?:=fun j hj=>(knew j fun(e:j=s0.length)=>hn (by rw[<-e];exact hj)).trans (kp j hj)
 have efp:fp (s'.set s0.length (.row [.str nm,.int .i64 0,.lst 1 [[.str [97]],[.str [98]]],uB'] 91 0 0)) 2=fp s 2:=by
  unfold fp;rw[ks 2 (by rw[hf];simp)]
 have hcl:Cl (s'.set s0.length (.row [.str nm,.int .i64 0,.lst 1 [[.str [97]],[.str [98]]],uB'] 91 0 0)):=Ge (hc hk.cl) fun j hj=>by
  simp only[Ob.refs,Aj,V.refs,Es,Cw]at hj;exact(Et g j hj).2
 have hu2:∀ j∈u2.refs,j≠s0.length/\j ∉ uB.refs:=fun j hj=>by
  have:=h.u2l j hj;exact⟨by omega,fun e=>by have:=(Et h.g j e).1;omega⟩
 have htape:TS (s'.set s0.length (.row [.str nm,.int .i64 0,.lst 1 [[.str [97]],[.str [98]]],uB'] 91 0 0)) 1:=by
  obtain⟨z,t,l,a,h1,h2⟩:=hk.tape;exact⟨z,t,l,a,by rw[ks 1 (by rw[hf];simp)];exact h1,h2⟩
 have hpw:=h.pw;refine⟨uB',s',e1,⟨(Id (D2 g)).1,(Id (D2 g)).2,D2 g⟩,(klo _ (Ah _)).trans h.r,k2,⟨⟨uH,Mw hk hcl (ks 2 (by rw[hf];simp)) htape fun i hi=>ks i (by rw[hf];simp[hi])⟩,by rw[Gr];have:=hpw.l5;omega,?_,?_,?_,by rw[efp];exact hpw.n0,by rw[efp];exact hpw.n3,by rw[efp];exact hpw.n4,?_,by rw[efp];exact hpw.gn⟩,c5,B8 (by omega),by rw[efp];exact hn,?_,?_,h.u2l⟩
 ·rw[knew 0 (by omega),klo 0 (by omega)];exact hpw.z
 ·rw[knew 3 (by omega),klo 3 (by omega)];exact hpw.d
 ·rw[knew 4 (by omega),klo 4 (by omega)];exact hpw.p
 ·exact Mx hpw.g fun i hi=>by rw[knew i (hu2 i hi).1,hB i (Et hpw.g i hi).2 (hu2 i hi).2]
 ·rw[Fb];exact Mx g fun i hi=>knew i (by have:=(Et g i hi).1;omega)
 ·intro j hj;rw[efp];rcases hr j hj with h3 | h3
  ·exact h.gn j h3
  ·exact fun e=>by have:=hfl j e;omega
theorem Ayq{s0 s:St}{nm:List UInt8}{u2 uB:V}{L:List Tp}{B:List Sp}(h:TH s0 s nm u2 L uB B)(hL:L.length<=1000000):
  ∃ s1 u' s2,N2 4 1 s [.str nm,.int .i64 0,.lst 1 [[.str [97]],[.str [98]]],uB]=some (.lst 1 [[.str nm,.int .i64 0,.lst 1 [[.str [97]],[.str [98]]],SL true 0 (B.map Sp.row)]],s1) /\
   Eu 72 (4,91) u2 (.lst 1 [[.str nm,.int .i64 0,.lst 1 [[.str [97]],[.str [98]]],SL true 0 (B.map Sp.row)]]) s1=some (u',s2)/\(u'.cells=[u']/\[u'].all V.cellB=true/\u'.cellB=true)/\s2[4]?=some (.row [.sl 3 0 0 9 6 true,u2] 27 0 0) /\
   PW (s2.set 4 (.row [.sl 3 0 0 9 6 true,u'] 27 0 0)) u' (L++[⟨nm,0,true,1,[[97],[98]],true,0,B⟩]):=by
 obtain⟨uH,hk⟩:=h.pw.hk;have hl:=Alu h;have c5:=h.c5;have hpw:=h.pw;obtain⟨s1,e1,l1,f1,c1⟩:=Ao6 h.g (loc:=.lst 1 [[.str [97]],[.str [98]]]) rfl nm 0;have hx:Tp.row ⟨nm,0,true,1,[[97],[98]],true,0,B⟩=[.str nm,.int .i64 0,.lst 1 [[.str [97]],[.str [98]]],SL true 0 (B.map Sp.row)]:=rfl
 have hu2:∀ j∈u2.refs,j ∉ uB.refs:=fun j hj e=>by
  have:=h.u2l j hj;have:=(Et h.g j e).1;omega
 have g1:GW s1 4 91 5 u2 (L.map Tp.row):=Mx hpw.g fun i hi=>f1 i (hu2 i hi)
 obtain⟨u',s2,e2,g2,hlen,hB,hr,hc⟩:=Un (bytes:=72) (y:=.lst 1 [Tp.row ⟨nm,0,true,1,[[97],[98]],true,0,B⟩]) (ys:=[Tp.row ⟨nm,0,true,1,[[97],[98]],true,0,B⟩]) g1 (by rw[l1];exact hpw.l5) rfl (by omega) (Tq L) (by simp;rfl) (fun r hr=>by rw[Ey.1 hr,hx];simp only[Au,A1,K4];rfl) (by simp;omega);have hf:=Fx hk
 have hfl:∀ j∈fp s 2,j<s.length:=fun j hj=>by
  rw[hf]at hj;simp only[Be]at hj;rcases hj with rfl | rfl | hj
  ·exact H3 hk
  ·exact L0 hk.tape
  ·exact Ch hk.h j hj
 have k0:∀ j,j<s.length->j ∉ uB.refs->j ∉ u2.refs->s2[j]?=s[j]?:=fun j hj h1 h2=>by rw[hB j (by omega) h2,f1 j h1]
 have kp:∀ j∈fp s 2,s2[j]?=s[j]?:=fun j hj=>k0 j (hfl j hj) (fun e=>h.gn j e hj) fun e=>hpw.gn j e hj
 have klo:∀ j,j<5->s2[j]?=s[j]?:=fun j hj=>k0 j (by omega) (fun e=>by have:=(Et h.g j e).1;omega) fun e=>by have:=(Et hpw.g j e).1;omega
 have knew:∀ j,j≠4->(s2.set 4 (.row [.sl 3 0 0 9 6 true,u'] 27 0 0))[j]?=s2[j]?:=fun j hj=>Bc (Ne.symm hj)
 have ks:∀ j∈fp s 2,(s2.set 4 (.row [.sl 3 0 0 9 6 true,u'] 27 0 0))[j]?=s[j]?:=fun j hj=>(knew j fun(e:j=4)=>hpw.n4 (by rw[<-e];exact hj)).trans (kp j hj)
 have efp:fp (s2.set 4 (.row [.sl 3 0 0 9 6 true,u'] 27 0 0)) 2=fp s 2:=by
  unfold fp;rw[ks 2 (by rw[hf];simp)]
 have h5:5<=s2.length:=by have:=hpw.l5;omega
 have hcl:Cl (s2.set 4 (.row [.sl 3 0 0 9 6 true,u'] 27 0 0)):=Ge (hc (c1 hk.cl)) fun j hj=>by
  simp only[Ob.refs,Aj,V.refs,Cw,Cq,Ey]at hj;rcases hj with rfl | hj
  ·omega
  ·exact(Et g2 j hj).2
 have htape:TS (s2.set 4 (.row [.sl 3 0 0 9 6 true,u'] 27 0 0)) 1:=by
  obtain⟨z,t,l,a,h1,h2⟩:=hk.tape;exact⟨z,t,l,a,by rw[ks 1 (by rw[hf];simp)];exact h1,h2⟩
 refine⟨s1,u',s2,e1,by rw[hx]at e2;exact e2,⟨(Id (D2 g2)).1,(Id (D2 g2)).2,D2 g2⟩,(klo 4 (by omega)).trans hpw.p,⟨⟨uH,Mw hk hcl (ks 2 (by rw[hf];simp)) htape fun i hi=>ks i (by rw[hf];simp[hi])⟩,by rw[Gr];exact h5,?_,?_,B8 (by omega),by rw[efp];exact hpw.n0,by rw[efp];exact hpw.n3,by rw[efp];exact hpw.n4,?_,?_⟩⟩
 ·rw[knew 0 (by omega),klo 0 (by omega)];exact hpw.z
 ·rw[knew 3 (by omega),klo 3 (by omega)];exact hpw.d
 ·rw[Fb];exact Mx g2 fun i hi=>knew i (by have:=(Et g2 i hi).1;omega)
 ·intro j hj;rw[efp];rcases hr j hj with h3 | h3
  ·exact hpw.gn j h3
  ·exact fun e=>by have:=hfl j e;omega
