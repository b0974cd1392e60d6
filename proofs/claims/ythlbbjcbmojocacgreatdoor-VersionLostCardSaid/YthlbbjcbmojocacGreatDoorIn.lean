/- Walks: the maker of programs: threads under way. -/
import Derived.Test.YthlbbjcbmojocacGreatDoorIi
set_option linter.all false
namespace Go.Proofs.YthlbbjcbmojocacGreatDoor.KM
open Go
def K6{σ τ:St}{m e lo:Nat}{u:V}{xs:List (List V)}(h:GW σ m e lo u xs)(hk:∀ i∈u.refs,τ[i]?=σ[i]?):GW τ m e lo u xs:=by
 rcases h with h | ⟨hn,i,g,h,ho,ql⟩
 .exact .inl h
 .exact .inr ⟨hn,i,g,h,by rw[hk i (by rw[h];simp[V.refs])];exact ho,ql⟩
def Dx{σ:St}{m e lo:Nat}{u:V}{xs:List (List V)}(h:GW σ m e lo u xs):∀ i∈u.refs,lo<=i/\i<σ.length:=by
 intro j hj;rcases h with⟨rfl,-⟩ | ⟨hn,i,g,rfl,ho,ql⟩
 .simp[V.refs]at hj
 .simp[V.refs]at hj;subst hj;exact⟨ql,(Ak.1 ho).1⟩
def Bda{σ:St}{m e lo:Nat}{u:V}{xs:List (List V)}(h:GW σ m e lo u xs)(hl:∀ r∈xs,r.length=m):Ea σ m u=some xs:=by
 rcases h with⟨rfl,rfl⟩ | ⟨hn,i,g,rfl,ho,ql⟩
 .rfl
 .simp only[Ea,ho];rw[if_pos ⟨trivial,trivial,by rw[Gw hl];omega⟩,I4,S0 hl]
def Bdb{σ:St}{m e:Nat}{u:V}{xs:List (List V)}(h:GS σ m e u xs):Ea σ m u=some xs:=by
 obtain⟨⟨hl,hr⟩,h⟩:=h;rcases h with⟨rfl,rfl⟩ | ⟨i,g,r,q,rfl,ho,hq,jy⟩
 .rfl
 .simp only[Ea,ho];rw[if_pos ⟨trivial,trivial,by rw[Al,Gw hl];omega⟩,I4,Abv m xs r hl]
def A31(a:List V)(k:Nat):∀ i∈Ah (a.take k),i∈Ah a:=by
 intro i hi;have:=G9 (a.take k) (a.drop k);rw[Gq]at this;rw[this];exact O9 _ hi
def A32(a:List V)(k:Nat):∀ i∈Ah (a.drop k),i∈Ah a:=by
 intro i hi;have:=G9 (a.take k) (a.drop k);rw[Gq]at this;rw[this];exact List.mem_append_right _ hi
def Ad4{σ σ':St}{m e bytes:Nat}{u u' y:V}{ys:List (List V)}(ha:D6 bytes (m,e) u y σ=some (u',σ'))(hy:Ea σ m y=some ys)(hr:∀ r∈ys,r.all V.rowB=true)(hu:u=.nils\/∃ i g len,u=.sl i g 0 len m true):(∀ j∈u'.refs,j∈u.refs\/σ.length<=j)/\(Cl σ->Cl σ'):=by
 have hf:Ah ys.flatten=[]:=G8 (Im hr);unfold D6 at ha;simp only[hy,Db]at ha;unfold J6 at ha
 split at ha
 .rcases hu with rfl | ⟨i,g,len,rfl⟩
  .simp only at ha
   split at ha
   .split at ha
    .cases ha;exact⟨fun j hj=>.inl hj,id⟩
    .cases ha;refine⟨fun j hj=>.inr (by simp[V.refs]at hj;omega),fun hc=>I8 hc ?_⟩;simp[Ob.refs,hf]
   .cases ha
  .simp only at ha
   split at ha
   .split at ha
    .rename_i cs e' g' z ho;have hi:=(Ak.1 ho).1;have hm:=Ge ho
     split at ha
     .split at ha
      .cases ha;exact⟨fun j hj=>.inl hj,id⟩
      .split at ha
       .split at ha
        .cases ha;refine⟨fun j hj=>.inl hj,fun hc=>Gc hc fun j hj=>?_⟩;simp only[Ob.refs,G9,hf,B3,B8]at hj;rcases hj with hj | hj
         .exact hc _ hm j (A31 _ _ _ hj)
         .exact hc _ hm j (A32 _ _ _ hj)
        .split at ha
         .cases ha;refine⟨fun j hj=>.inl hj,fun hc=>Gc hc fun j hj=>?_⟩;simp only[Ob.refs,G9,hf,B3]at hj;exact hc _ hm j hj
         .cases ha
       .cases ha
     .cases ha
    .cases ha
   .cases ha
 .cases ha
def Ahw{σ:St}{m e lo:Nat}{u:V}{xs:List (List V)}(h:GW σ m e lo u xs):u=.nils\/∃ i g len,u=.sl i g 0 len m true:=by
 rcases h with⟨rfl,-⟩ | ⟨hn,i,g,rfl,-⟩
 .exact .inl rfl
 .exact .inr ⟨i,g,_,rfl⟩
def Pp{σ:St}{m e lo bytes:Nat}{u y:V}{xs ys:List (List V)}(h:GW σ m e lo u xs)(qA:lo<=σ.length)(hy:Ea σ m y=some ys)(hm:0<m)(hl:∀ r∈xs,r.length=m)(jc:∀ r∈ys,r.length=m)(hr:∀ r∈ys,r.all V.rowB=true)(hb:(xs.length+ys.length)*bytes<=140737488355328):
  ∃ u' σ',D6 bytes (m,e) u y σ=some (u',σ')/\GW σ' m e lo u' (xs++ys)/\σ.length<=σ'.length/\(∀ j,j<σ.length->j ∉ u.refs->σ'[j]?=σ[j]?)/\(∀ j∈u'.refs,j∈u.refs\/σ.length<=j)/\(Cl σ->Cl σ'):=by
 obtain⟨u',σ',h1,h2,h3,h4,-⟩:=Hl h qA hy hm hl jc hb;obtain⟨h5,h6⟩:=Ad4 h1 hy hr (Ahw h);refine⟨u',σ',h1,h2,h3,fun j hj hn=>h4 j (fun i g hu e=>hn ?_) hj,h5,h6⟩;rw[hu,e];simp[V.refs]
def Aof{σ:St}{lo e:Nat}{u loc:V}{B:List Sp}(h:GW σ 11 e lo u (B.map Sp.row))(hb:loc.rowB=true)(nm:List UInt8)(ln:Int):
  ∃ σ',Ou 4 1 σ [.str nm,iV ln,loc,u]=some (.lst 1 [[.str nm,iV ln,loc,SL true 0 (B.map Sp.row)]],σ')/\σ'.length=σ.length/\(∀ j,j ∉ u.refs->σ'[j]?=σ[j]?)/\(Cl σ->Cl σ'):=by
 have hl:∀ r∈B.map Sp.row,r.length=11:=fun r hr=>by obtain⟨x,-,rfl⟩:=Ct.1 hr;exact Nf x
 have hs:∀ r∈B.map Sp.row,r.all V.rowB=true:=fun r hr=>by obtain⟨x,-,rfl⟩:=Ct.1 hr;exact Gu x
 have jf:=Mp h (by omega) hl hs;have hr:Ah [V.str nm,iV ln,loc,u]=u.refs:=by simp[Ah,V.refs,Vg hb]
 have jj:=jf (Fl σ 9 u.refs.eraseDups) (fun i hi=>Oh σ 9 _ i (Sl.2 hi)) 7;have hi:∀ v:V,v.rowB=true->Fa σ (Fl σ 9 u.refs.eraseDups) 9 v=some v:=fun v hv=>Sz hv
 unfold Ou;rw[hr];simp only[H0,Abb,hi (.str nm) rfl,hi (iV ln) rfl,hi loc hb,jj];refine⟨_,rfl,Pe _ _,fun j hj=>Wm _ _ _ fun hm=>?_,Wy _ _⟩;rcases h with⟨rfl,-⟩ | ⟨hn,i,g,rfl,ho,ql⟩
 .simp[V.refs,Fl]at hm
 .have:Fl σ 9 (V.refs (.sl i g 0 (B.map Sp.row).length 11 true)).eraseDups=[i]:=by
   have e1:(V.refs (.sl i g 0 (B.map Sp.row).length 11 true)).eraseDups=[i]:=by simp[V.refs,List.eraseDups_cons]
   rw[e1];have hx:Ah (B.map Sp.row).flatten=[]:=G8 (Im hs);simp[Fl,ho,Ob.refs,hx]
  rw[this]at hm;exact hj (by simpa[V.refs] using hm)
structure PW (s:St) (u2:V) (L:List Tp):Prop where
 hk:∃ uH,MKr s 2 1 uH []
 l5:5<=s.length
 z:s[0]?=some (.row [.nils,.nils] 29 0 0)
 d:s[3]?=some (.row (declsL.map Dp.row).flatten 86 0 0)
 p:s[4]?=some (.row [.sl 3 0 0 9 6 true,u2] 29 0 0)
 n0:0 ∉ fp s 2
 n3:3 ∉ fp s 2
 n4:4 ∉ fp s 2
 g:GW s 4 90 5 u2 (L.map Tp.row)
 gn:∀ j∈u2.refs,j ∉ fp s 2
def Aeo{s s':St}{u2 uH:V}{L:List Tp}(h:PW s u2 L)(hk:MKr s' 2 1 uH [])(w:FW 2 s s'):PW s' u2 L:=by
 obtain⟨z,n0⟩:=Ip w h.z h.n0;obtain⟨d,n3⟩:=Ip w h.d h.n3;obtain⟨p,n4⟩:=Ip w h.p h.n4;refine⟨⟨_,hk⟩,Cw h.l5 w.1,z,d,p,n0,n3,n4,K6 h.g fun i hi=>w.2.1 i (Dx h.g i hi).2 (h.gn i hi),fun j hj hm=>?_⟩;rcases w.2.2 j hm with h2 | h2
 .exact h.gn j hj h2
 .have:=(Dx h.g j hj).2;omega
def Zr{s:St}{u2:V}{L:List Tp}(h:PW s u2 L):∃ (th left:Int) (se tx ao lp:Bool) (uH:V),s[2]?=some (.row [.ptr 1 0 0,iV th,iV left,.bool se,.bool tx,.bool ao,.bool lp,uH] 97 0 0) /\
  ∀ (th left:Int) (se tx ao lp:Bool),PW (s.set 2 (.row [.ptr 1 0 0,iV th,iV left,.bool se,.bool tx,.bool ao,.bool lp,uH] 97 0 0)) u2 L:=by
 obtain⟨uH,hk⟩:=h.hk;obtain⟨th,left,se,tx,ao,lp,hr⟩:=hk.row;refine⟨th,left,se,tx,ao,lp,uH,hr,fun th left se tx ao lp=>?_⟩;obtain⟨h1,h2⟩:=Aui hk th left se tx ao lp;exact Aeo h h1 h2
structure TH (s0 s:St) (nm:List UInt8) (u2:V) (L:List Tp) (uB:V) (B:List Sp):Prop where
 pw:PW s u2 L
 c5:5<=s0.length
 r:s[s0.length]?=some (.row [.str nm,iV 0,.lst 1 [[.str [97]],[.str [98]]],uB] 90 0 0)
 n:s0.length ∉ fp s 2
 g:GW s 11 104 (s0.length+1) uB (B.map Sp.row)
 gn:∀ j∈uB.refs,j ∉ fp s 2
 u2l:∀ j∈u2.refs,j<s0.length
def Bdc{s:St}{u2:V}{L:List Tp}(h:PW s u2 L)(nm:List UInt8):TH s (s++[.row [.str nm,iV 0,.lst 1 [[.str [97]],[.str [98]]],.nils] 90 0 0]) nm u2 L .nils []:=by
 obtain⟨uH,hk⟩:=h.hk;obtain⟨h1,h2⟩:=Ac9 hk [.row [.str nm,iV 0,.lst 1 [[.str [97]],[.str [98]]],.nils] 90 0 0] (Iu hk.cl rfl);refine⟨Aeo h h1 h2,h.l5,by simp,fun hm=>?_,D5,by simp[V.refs],fun j hj=>(Dx h.g j hj).2⟩;rw[He h1,<-He hk]at hm;exact Ad0 (τ:=s) hk (Ai _) hm
def Akm{s0 s s':St}{nm:List UInt8}{u2 uB uH:V}{L:List Tp}{B:List Sp}(h:TH s0 s nm u2 L uB B)(hk:MKr s' 2 1 uH [])(w:FW 2 s s'):TH s0 s' nm u2 L uB B:=by
 obtain⟨r,n⟩:=Ip w h.r h.n;refine⟨Aeo h.pw hk w,h.c5,r,n,K6 h.g fun i hi=>w.2.1 i (Dx h.g i hi).2 (h.gn i hi),fun j hj hm=>?_,h.u2l⟩;rcases w.2.2 j hm with h2 | h2
 .exact h.gn j hj h2
 .have:=(Dx h.g j hj).2;omega
def Avv{s0 s:St}{nm:List UInt8}{u2 uB:V}{L:List Tp}{B:List Sp}(h:TH s0 s nm u2 L uB B):s0.length<s.length:=(Ak.1 h.r).1
def Tj(B:List Sp):∀ r∈B.map Sp.row,r.length=11:=fun r hr=>by obtain⟨x,-,rfl⟩:=Ct.1 hr;exact Nf x
def Ahx(B:List Sp):∀ r∈B.map Sp.row,r.all V.rowB=true:=fun r hr=>by obtain⟨x,-,rfl⟩:=Ct.1 hr;exact Gu x
def Ajo{s0 s:St}{nm:List UInt8}{u2 uB y:V}{L:List Tp}{B C:List Sp}(h:TH s0 s nm u2 L uB B)(hy:Ea s 11 y=some (C.map Sp.row))(hb:B.length+C.length<=1000000):
  ∃ qg s',D6 176 (11,104) uB y s=some (qg,s')/\(qg.cells=[qg]/\[qg].all V.cellB=true/\qg.cellB=true)/\s'[s0.length]?=some (.row [.str nm,iV 0,.lst 1 [[.str [97]],[.str [98]]],uB] 90 0 0)/\s'[2]?=s[2]? /\
   TH s0 (s'.set s0.length (.row [.str nm,iV 0,.lst 1 [[.str [97]],[.str [98]]],qg] 90 0 0)) nm u2 L qg (B++C):=by
 obtain⟨uH,hk⟩:=h.pw.hk;have hl:=Avv h;obtain⟨qg,s',e1,g,qj,hB,hr,hc⟩:=Pp (bytes:=176) h.g hl hy (by omega) (Tj B) (Tj C) (Ahx C) (by rw[Ap,Ap];omega);have hf:=He hk
 have qr:∀ j∈fp s 2,j<s.length:=fun j hj=>by
  rw[hf]at hj;simp only[Bj]at hj;rcases hj with rfl | rfl | hj
  .exact J4 hk
  .exact Lx hk.tape
  .exact Cy hk.h j hj
 have kp:∀ j∈fp s 2,s'[j]?=s[j]?:=fun j hj=>hB j (qr j hj) fun e=>h.gn j e hj
 have k2:s'[2]?=s[2]?:=kp 2 (by rw[hf];simp);have qm:∀ j,j<=s0.length->s'[j]?=s[j]?:=fun j hj=>hB j (by omega) fun e=>by have:=(Dx h.g j e).1;omega
 have hn:=h.n;have c5:=h.c5;have qb:∀ j,j≠s0.length->(s'.set s0.length (.row [.str nm,iV 0,.lst 1 [[.str [97]],[.str [98]]],qg] 90 0 0))[j]?=s'[j]?:=fun j hj=>Bh (Ne.symm hj)
 have ks:∀ j∈fp s 2,(s'.set s0.length (.row [.str nm,iV 0,.lst 1 [[.str [97]],[.str [98]]],qg] 90 0 0))[j]?=s[j]?:=fun j hj=>(qb j fun(e:j=s0.length)=>hn (by rw[<-e];exact hj)).trans (kp j hj)
 have qh:fp (s'.set s0.length (.row [.str nm,iV 0,.lst 1 [[.str [97]],[.str [98]]],qg] 90 0 0)) 2=fp s 2:=by
  unfold fp;rw[ks 2 (by rw[hf];simp)]
 have qx:Cl (s'.set s0.length (.row [.str nm,iV 0,.lst 1 [[.str [97]],[.str [98]]],qg] 90 0 0)):=Gc (hc hk.cl) fun j hj=>by
  simp only[Ob.refs,Ah,V.refs,Cr,B3]at hj;exact(Dx g j hj).2
 have qu:∀ j∈u2.refs,j≠s0.length/\j ∉ uB.refs:=fun j hj=>by
  have:=h.u2l j hj;exact⟨by omega,fun e=>by have:=(Dx h.g j e).1;omega⟩
 have qk:TS (s'.set s0.length (.row [.str nm,iV 0,.lst 1 [[.str [97]],[.str [98]]],qg] 90 0 0)) 1:=by
  obtain⟨z,t,l,a,h1,h2⟩:=hk.tape;exact⟨z,t,l,a,by rw[ks 1 (by rw[hf];simp)];exact h1,h2⟩
 have qa:=h.pw;refine⟨qg,s',e1,⟨(Iq (Cu g)).1,(Iq (Cu g)).2,Cu g⟩,(qm _ (Ai _)).trans h.r,k2,⟨⟨uH,Pw hk qx (ks 2 (by rw[hf];simp)) qk fun i hi=>ks i (by rw[hf];simp[hi])⟩,by rw[Hi];have:=qa.l5;omega,?_,?_,?_,by rw[qh];exact qa.n0,by rw[qh];exact qa.n3,by rw[qh];exact qa.n4,?_,by rw[qh];exact qa.gn⟩,c5,B5 (by omega),by rw[qh];exact hn,?_,?_,h.u2l⟩
 .rw[qb 0 (by omega),qm 0 (by omega)];exact qa.z
 .rw[qb 3 (by omega),qm 3 (by omega)];exact qa.d
 .rw[qb 4 (by omega),qm 4 (by omega)];exact qa.p
 .exact K6 qa.g fun i hi=>by rw[qb i (qu i hi).1,hB i (Dx qa.g i hi).2 (qu i hi).2]
 .rw[Dw];exact K6 g fun i hi=>qb i (by have:=(Dx g i hi).1;omega)
 .intro j hj;rw[qh];rcases hr j hj with h3 | h3
  .exact h.gn j h3
  .exact fun e=>by have:=qr j e;omega
def Bdd{s0 s:St}{nm:List UInt8}{u2 uB:V}{L:List Tp}{B:List Sp}(h:TH s0 s nm u2 L uB B)(hL:L.length<=1000000):
  ∃ s1 u' s2,Ou 4 1 s [.str nm,iV 0,.lst 1 [[.str [97]],[.str [98]]],uB]=some (.lst 1 [[.str nm,iV 0,.lst 1 [[.str [97]],[.str [98]]],SL true 0 (B.map Sp.row)]],s1) /\
   D6 72 (4,90) u2 (.lst 1 [[.str nm,iV 0,.lst 1 [[.str [97]],[.str [98]]],SL true 0 (B.map Sp.row)]]) s1=some (u',s2)/\(u'.cells=[u']/\[u'].all V.cellB=true/\u'.cellB=true)/\s2[4]?=some (.row [.sl 3 0 0 9 6 true,u2] 29 0 0) /\
   PW (s2.set 4 (.row [.sl 3 0 0 9 6 true,u'] 29 0 0)) u' (L++[⟨nm,0,true,1,[[97],[98]],true,0,B⟩]):=by
 obtain⟨uH,hk⟩:=h.pw.hk;have hl:=Avv h;have c5:=h.c5;have qa:=h.pw;obtain⟨s1,e1,l1,f1,c1⟩:=Aof h.g (loc:=.lst 1 [[.str [97]],[.str [98]]]) rfl nm 0;have hx:Tp.row ⟨nm,0,true,1,[[97],[98]],true,0,B⟩=[.str nm,iV 0,.lst 1 [[.str [97]],[.str [98]]],SL true 0 (B.map Sp.row)]:=rfl
 have qu:∀ j∈u2.refs,j ∉ uB.refs:=fun j hj e=>by
  have:=h.u2l j hj;have:=(Dx h.g j e).1;omega
 have g1:GW s1 4 90 5 u2 (L.map Tp.row):=K6 qa.g fun i hi=>f1 i (qu i hi)
 obtain⟨u',s2,e2,g2,qj,hB,hr,hc⟩:=Pp (bytes:=72) (y:=.lst 1 [Tp.row ⟨nm,0,true,1,[[97],[98]],true,0,B⟩]) (ys:=[Tp.row ⟨nm,0,true,1,[[97],[98]],true,0,B⟩]) g1 (by rw[l1];exact qa.l5) rfl (by omega) (Tb L) (by simp;rfl) (fun r hr=>by rw[Eo.1 hr,hx];simp only[Aw,Bi,Is];rfl) (by simp;omega);have hf:=He hk
 have qr:∀ j∈fp s 2,j<s.length:=fun j hj=>by
  rw[hf]at hj;simp only[Bj]at hj;rcases hj with rfl | rfl | hj
  .exact J4 hk
  .exact Lx hk.tape
  .exact Cy hk.h j hj
 have k0:∀ j,j<s.length->j ∉ uB.refs->j ∉ u2.refs->s2[j]?=s[j]?:=fun j hj h1 h2=>by rw[hB j (by omega) h2,f1 j h1]
 have kp:∀ j∈fp s 2,s2[j]?=s[j]?:=fun j hj=>k0 j (qr j hj) (fun e=>h.gn j e hj) fun e=>qa.gn j e hj
 have qm:∀ j,j<5->s2[j]?=s[j]?:=fun j hj=>k0 j (by omega) (fun e=>by have:=(Dx h.g j e).1;omega) fun e=>by have:=(Dx qa.g j e).1;omega
 have qb:∀ j,j≠4->(s2.set 4 (.row [.sl 3 0 0 9 6 true,u'] 29 0 0))[j]?=s2[j]?:=fun j hj=>Bh (Ne.symm hj)
 have ks:∀ j∈fp s 2,(s2.set 4 (.row [.sl 3 0 0 9 6 true,u'] 29 0 0))[j]?=s[j]?:=fun j hj=>(qb j fun(e:j=4)=>qa.n4 (by rw[<-e];exact hj)).trans (kp j hj)
 have qh:fp (s2.set 4 (.row [.sl 3 0 0 9 6 true,u'] 29 0 0)) 2=fp s 2:=by
  unfold fp;rw[ks 2 (by rw[hf];simp)]
 have h5:5<=s2.length:=by have:=qa.l5;omega
 have qx:Cl (s2.set 4 (.row [.sl 3 0 0 9 6 true,u'] 29 0 0)):=Gc (hc (c1 hk.cl)) fun j hj=>by
  simp only[Ob.refs,Ah,V.refs,B3,B8,Eo]at hj;rcases hj with rfl | hj
  .omega
  .exact(Dx g2 j hj).2
 have qk:TS (s2.set 4 (.row [.sl 3 0 0 9 6 true,u'] 29 0 0)) 1:=by
  obtain⟨z,t,l,a,h1,h2⟩:=hk.tape;exact⟨z,t,l,a,by rw[ks 1 (by rw[hf];simp)];exact h1,h2⟩
 refine⟨s1,u',s2,e1,by rw[hx]at e2;exact e2,⟨(Iq (Cu g2)).1,(Iq (Cu g2)).2,Cu g2⟩,(qm 4 (by omega)).trans qa.p,⟨⟨uH,Pw hk qx (ks 2 (by rw[hf];simp)) qk fun i hi=>ks i (by rw[hf];simp[hi])⟩,by rw[Hi];exact h5,?_,?_,B5 (by omega),by rw[qh];exact qa.n0,by rw[qh];exact qa.n3,by rw[qh];exact qa.n4,?_,?_⟩⟩
 .rw[qb 0 (by omega),qm 0 (by omega)];exact qa.z
 .rw[qb 3 (by omega),qm 3 (by omega)];exact qa.d
 .rw[Dw];exact K6 g2 fun i hi=>qb i (by have:=(Dx g2 i hi).1;omega)
 .intro j hj;rw[qh];rcases hr j hj with h3 | h3
  .exact qa.gn j h3
  .exact fun e=>by have:=qr j e;omega
structure OKp (p:Gp):Prop where
 sh:ShG p
 len:(Hp p).length<=10000000000
 siz:∀ t∈p.thrs,Sp.szs t.body<=1000000
 blk:C7 p.row<=1000000
 ln:LnG p
 few:p.thrs.length<=5
 nd:(p.thrs.map fun t=>t.nm).Nodup
def nml:List (List UInt8):=[[109,97,105,110],[116,49],[116,50],[116,51]]
def A33{L:List Tp}{i:Nat}{nm:List UInt8}{t:Tp}(h:(L.map fun t=>t.nm)=nml.take i)(hn:([[V.str [109,97,105,110]],[V.str [116,49]],[V.str [116,50]],[V.str [116,51]]]:List (List V))[i]?=some [V.str nm])(ht:t.nm=nm):((L++[t]).map fun t=>t.nm)=nml.take (i+1):=by
 have hn:(nml.map fun x=>[V.str x])[i]?=some [V.str nm]:=hn;rw[Aj]at hn
 cases hi:nml[i]? with
 | none=>rw[hi]at hn;cases hn
 | some x=>
  rw[hi]at hn;simp at hn;rw[Dw,h,G7,hi,hn,<-ht];rfl
def Bde{L:List Tp}{i:Nat}(h:(L.map fun t=>t.nm)=nml.take i):(L.map fun t=>t.nm).Nodup:=h ▸ List.Pairwise.sublist (List.take_sublist i nml) (by decide)
def Qo(t:Tp):Prop:=Lj t.nm/\t.locals=[[97],[98]]/\(∀ s∈t.body,SM 2 s)/\t.body.length<=10
def Bdf{t:Tp}(h:Qo t):MT t:=by
 obtain⟨h1,h2,h3,h4⟩:=h;refine⟨h1,⟨?_,?_⟩,2,by omega,fun s hs=>(h3 s hs).1,by omega⟩
 .rw[h2];exact A8n (by kernel_rfl)
 .rw[h2];simp
def Asm:∀ {l:List Sp},(∀ s∈l,SM 2 s)->C0 (l.map Sp.row)<=l.length*2100
 | [],_=>by simp[C0]
 | x::l,h=>by
  have h1:=(h x (by simp)).2;have h2:=Asm (l:=l) fun s hs=>h s (by simp[hs])
  have:BK 2=2100:=rfl;rw[Bb,C0,Am,Ep];omega
def Aqs:∀ {L:List Tp},(∀ t∈L,Qo t)->C0 (L.map Tp.row)<=L.length*30000
 | [],_=>by simp[C0]
 | x::l,h=>by
  obtain⟨h1,h2,h3,h4⟩:=h x (by simp);have h5:=Aqs (L:=l) fun s hs=>h s (by simp[hs])
  have h6:=Asm h3;have h7:=h1.2;have h8:C0 (x.locals.map fun s=>[V.str s])=4:=by rw[h2];rfl
  have h9:x.body.length*2100<=10*2100:=Fp _ h4;rw[Bb,C0,Am,Ep,Z4];omega
def Asn:∀ {L:List Tp},(∀ t∈L,Qo t)->M5 L<=L.length*1000
 | [],_=>by simp[M5]
 | x::l,h=>by
  obtain⟨h1,h2,h3,h4⟩:=h x (by simp);have h5:=Asn (L:=l) fun s hs=>h s (by simp[hs])
  have h6:=Zj (k:=2) (l:=x.body) fun s hs=>(h3 s hs).1
  have z2:ZB 2=21:=rfl;have h9:x.body.length*ZB 2<=10*ZB 2:=Fp _ h4;have:M5 (x::l)=Sp.szs x.body+M5 l:=by simp[M5]
  rw[this,Am,Ep];omega
def Aso{z1 z2:Bool}{t1 t2:Nat}{L:List Tp}(hL:∀ t∈L,Qo t)(h5:L.length<=5)(h0:L≠[])(je:(L.map fun t=>t.nm).Nodup):OKp ⟨z1,t1,declsL,z2,t2,L⟩/\M5 L<=1000000:=by
 obtain⟨a,b,c⟩:=Bil (D:=declsL) (L:=L) ⟨A0q.1,by decide⟩ (fun t ht=>Bdf (hL t ht)) h5 h0;have h1:=Aqs hL;have h2:=Asn hL;have h3:L.length*30000<=5*30000:=Fp _ h5;have h4:L.length*1000<=5*1000:=Fp _ h5;have hd:C0 (declsL.map Dp.row)<=1000:=by decide +kernel
 refine⟨⟨⟨a.decls,a.nms,a.locs,a.thrs,a.some⟩,b,c,?_,⟨by simp only;decide,by simp only;omega,fun t ht=>?_⟩,h5,je⟩,by omega⟩
 .rw[Aki];simp only;omega
 .rw[(hL t ht).2.1];simp
def Bdg:MX 1 (F9 1):=by
 refine⟨.num (by omega),?_,?_⟩
 .have:(F9 1).txt.length=1:=by unfold F9;rw[Fq];rfl
  have e1:EB 1=54:=rfl;omega
 .unfold F9;rw[Gr];have x1:M6 1=36:=rfl;simp[C0];omega
def Avw{f p:Nat}{res:List AR}{body:AC}{vs:List V}{R:Gp->Prop}(hT:TT f=some ⟨p,res,false,body,none⟩)(hl:vs.length=p)
  (h:W TT PT [.c body] (Dd 0 vs) [] (Hd fun e' σ1=>∃ u1 u2 z1 t1 z2 t2 D L,Cd e' σ1 res=some (.agg [u1,u2])/\(OC σ1 u1 (SL z1 t1 (D.map Dp.row))/\u1.cellB=true)/\(OC σ1 u2 (SL z2 t2 (L.map Tp.row))/\u2.cellB=true)/\R ⟨z1,t1,D,z2,t2,L⟩)):∃ p:Gp,Fn TT PT f vs (.agg p.row)/\R p:=by
 obtain⟨e',σ1,hE,u1,u2,z1,t1,z2,t2,D,L,hr,⟨h1,c1⟩,⟨h2,c2⟩,hR⟩:=h;refine⟨⟨z1,t1,D,z2,t2,L⟩,?_,hR⟩;have jg:OV σ1 (.agg [u1,u2]) (.agg [SL z1 t1 (D.map Dp.row),SL z2 t2 (L.map Tp.row)]):=Tv (.cons h1 (.cons h2 .nil));have qe:Dl (.agg [SL z1 t1 (D.map Dp.row),SL z2 t2 (L.map Tp.row)])=true:=by simp only[Dl,Aw,Bi,Tr];rfl
 refine Ant hT rfl rfl hl ⟨e',σ1,hE,.agg [u1,u2],Ah [u1,u2],hr,?_,jg _ (fun i hi=>hi),?_,?_⟩
 .show([u1,u2].all V.cellB)=true;simp only[Aw,Bi,c1,c2];rfl
 .exact Vh qe
 .exact Xz qe
def Aum{s:St}(h:s[3]?=some (.row (declsL.map Dp.row).flatten 86 0 0)):OC s (.sl 3 0 0 9 6 true) (SL true 0 (declsL.map Dp.row))/\(V.sl 3 0 0 9 6 true).cellB=true:=
 ⟨Ud (xs:=declsL.map Dp.row) h (by omega) (Aby declsL) (Ag6 declsL),rfl⟩
set_option maxRecDepth 20000 in
set_option maxHeartbeats 16000000 in
def Aqt(z:Bool)(t:Nat)(l:List UInt8)(hl:l.length<=9223372036854775807):∃ p:Gp,Fn TT PT 16 [SL z t (Bs l)] (.agg p.row)/\OKp p:=by
 refine Avw T16 rfl ?_;refine H7 (fun e s=>e=[(0,SL z t (Bs l)),(2,.ptr 0 0 0)]/\s=[.row [.nils,.nils] 29 0 0]) ?_ ?_
 .intro k' qc;simp only[go_sem];exact qc _ _ ⟨rfl,rfl⟩
 rintro _ _ ⟨rfl,rfl⟩;refine H7 (fun e s=>e=[(2,.ptr 0 0 0),(3,.ptr 2 0 0)]/\s=[.row [.nils,.nils] 29 0 0,.row [SL z t (Bs l),iV 0] 95 0 0,.row [.ptr 1 0 0,iV 0,iV 20,.bool false,.bool false,.bool false,.bool false,.nils] 97 0 0]) ?_ ?_
 .intro k' qc;have hb:V.cellB (SL z t (Bs l))=true:=Fz (Tr _ _ _);simp only[go_sem,hb];exact qc _ _ ⟨rfl,rfl⟩
 rintro _ _ ⟨rfl,rfl⟩;refine H7 (fun e s=>e=[(2,.ptr 0 0 0),(3,.ptr 2 0 0),(4,.ptr 4 0 0)]/\PW s .nils []) ?_ ?_
 .intro k' qc;simp only[go_sem];refine Ju (Am4 _) ?_;simp only[go_sem]
  have qP:MKr [.row [.nils,.nils] 29 0 0,.row [SL z t (Bs l),iV 0] 95 0 0,.row [.ptr 1 0 0,iV 0,iV 20,.bool false,.bool false,.bool false,.bool false,.nils] 97 0 0,.row (declsL.map Dp.row).flatten 86 0 0,.row [.sl 3 0 0 9 6 true,.nils] 29 0 0] 2 1 .nils []:=by
   refine⟨⟨0,20,false,false,false,false,rfl⟩,⟨z,t,l,0,rfl,Au _,hl⟩,by decide,Zn,by simp[V.refs],?_⟩;intro ob hm j hj;simp only[Bj,Qs,or_false]at hm;rcases hm with rfl | rfl | rfl | rfl | rfl
   .simp[Ob.refs,Ah,V.refs]at hj
   .simp[Ob.refs,Ah,V.refs,Ng]at hj
   .simp[Ob.refs,Ah,V.refs]at hj;subst hj;simp
   .simp only[Ob.refs,Agi]at hj;cases hj
   .simp[Ob.refs,Ah,V.refs]at hj;subst hj;simp
  have hf:=He qP;exact qc _ _ ⟨rfl,⟨_,qP⟩,by simp,rfl,rfl,rfl,by rw[hf];simp[V.refs],by rw[hf];simp[V.refs],by rw[hf];simp[V.refs],D5,by simp[V.refs]⟩
 rintro _ s ⟨rfl,pw⟩;refine H7 (fun e s=>∃ n:Nat,(2<=n/\n<=4)/\e=[(2,.ptr 0 0 0),(3,.ptr 2 0 0),(4,.ptr 4 0 0),(5,iV (n:Int))]/\PW s .nils []) ?_ ?_
 .intro k' qc;obtain⟨_,_,_,_,_,_,_,m1,-⟩:=Zr pw;obtain⟨uH,hk⟩:=pw.hk;obtain⟨r,s2,q2,h2,w2,l2,r2,m2⟩:=Po hk 3 3 rfl (by omega);have en:IntKind.i64.wrap (2+(r:Int))=((2+r:Nat):Int):=by rw[Ch (by omega)];omega
  simp only[go_sem,m1];refine Ac q2 ?_;simp only[go_sem,en];exact qc _ _ ⟨2+r,by omega,rfl,Aeo pw h2 w2⟩
 clear pw s;rintro _ s ⟨n,hn,rfl,pw⟩;refine H7 (fun e s=>e=[(2,.ptr 0 0 0),(3,.ptr 2 0 0),(4,.ptr 4 0 0),(5,iV (n:Int)),(6,.lst 1 [[.str [109,97,105,110]],[.str [116,49]],[.str [116,50]],[.str [116,51]]])]/\PW s .nils []) ?_ ?_
 .intro k' qc;simp only[go_sem];exact qc _ _ ⟨rfl,pw⟩
 clear pw s;rintro _ s ⟨rfl,pw⟩;refine H7 (fun e s=>(∃ i:Nat,e=[(2,.ptr 0 0 0),(3,.ptr 2 0 0),(4,.ptr 4 0 0),(5,iV (n:Int)),(6,.lst 1 [[.str [109,97,105,110]],[.str [116,49]],[.str [116,50]],[.str [116,51]]]),(7,iV (i:Int))])/\∃ u2 L,PW s u2 L/\(∀ t∈L,Qo t)/\L.length<=5/\L≠[]/\(L.map fun t=>t.nm).Nodup) ?_ ?_
 .intro k' qc;simp only[go_sem];refine Bn (α:=Nat × St × V × List Tp) (fun a=>n - a.1) (fun a=>[(2,.ptr 0 0 0),(3,.ptr 2 0 0),(4,.ptr 4 0 0),(5,iV (n:Int)),(6,.lst 1 [[.str [109,97,105,110]],[.str [116,49]],[.str [116,50]],[.str [116,51]]]),(7,iV (a.1:Int))]) (fun a=>a.2.1) (fun a=>a.1<=n/\PW a.2.1 a.2.2.1 a.2.2.2/\(∀ t∈a.2.2.2,Qo t)/\a.2.2.2.length=a.1/\(a.2.2.2.map fun t=>t.nm)=nml.take a.1) ?_ (0,s,.nils,[]) ⟨Au _,pw,(fun d hd=>by cases hd),rfl,rfl⟩;clear pw s;rintro⟨i,s,u2,L⟩ ⟨hi,pw,hL,qp,qq⟩ ih;simp only at hi pw hL qp qq ih;refine Bl Bgj ?_;rcases Be i n with h' | h';rotate_left
  .simp only[go_sem,Bq h'];exact qc _ _ ⟨⟨i,rfl⟩,u2,L,pw,hL,by omega,(fun e=>by rw[e]at qp;simp at qp;omega),Bde qq⟩
  obtain⟨nm,qD,qC⟩:=Yj [[109,97,105,110],[116,49],[116,50],[116,51]] (by kernel_rfl) (j:=i) (by simp;omega);simp only[Bb,B7]at qD;refine H7 (fun e s'=>e=[(2,.ptr 0 0 0),(3,.ptr 2 0 0),(4,.ptr 4 0 0),(5,iV (n:Int)),(6,.lst 1 [[.str [109,97,105,110]],[.str [116,49]],[.str [116,50]],[.str [116,51]]]),(7,iV (i:Int))]/\s'=s) ?_ ?_
  .intro k' qc;simp only[go_sem,A0 h'];exact qc _ _ ⟨rfl,rfl⟩
  rintro _ s' ⟨rfl,e0⟩;rw[e0];clear e0 s';refine H7 (fun e s'=>(e=[(2,.ptr 0 0 0),(3,.ptr 2 0 0),(4,.ptr 4 0 0),(5,iV (n:Int)),(6,.lst 1 [[.str [109,97,105,110]],[.str [116,49]],[.str [116,50]],[.str [116,51]]]),(7,iV (i:Int))]\/∃ v,e=[(2,.ptr 0 0 0),(3,.ptr 2 0 0),(4,.ptr 4 0 0),(5,iV (n:Int)),(6,.lst 1 [[.str [109,97,105,110]],[.str [116,49]],[.str [116,50]],[.str [116,51]]]),(7,iV (i:Int)),(9,v)])/\∃ u' t,PW s' u' (L++[t])/\Qo t/\t.nm=nm) ?_ ?_;rotate_left
  .clear pw qC;rintro e s ⟨he,u',t,pw,ht,jk⟩;have hN:=A33 qq qD jk;have qW:∀ x∈L++[t],Qo x:=fun x hx=>(B8.1 hx).elim (hL x) fun hx=>by rw[Eo.1 hx];exact ht
   rcases he with rfl | ⟨v,rfl⟩
   all_goals
    simp only[go_sem,A2 (show i<9223372036854775807 by omega)];exact As (ih (i+1,s,u',L++[t]) (by simp only;omega) ⟨h',pw,qW,by rw[Al,Hw,qp],hN⟩) rfl
  clear ih qc k';intro k' qc;rw[Au7];refine H7 (fun e s'=>e=[(2,.ptr 0 0 0),(3,.ptr 2 0 0),(4,.ptr 4 0 0),(5,iV (n:Int)),(6,.lst 1 [[.str [109,97,105,110]],[.str [116,49]],[.str [116,50]],[.str [116,51]]]),(7,iV (i:Int))]/\PW s' u2 L) ?_ ?_
  .intro k2 qf;obtain⟨_,_,_,_,_,_,_,m1,ho⟩:=Zr pw;simp only[go_sem,m1];exact qf _ _ ⟨rfl,ho _ _ _ _ _ _⟩
  clear pw s;rintro _ s0 ⟨rfl,pw⟩;refine H7 (fun e s'=>e=[(2,.ptr 0 0 0),(3,.ptr 2 0 0),(4,.ptr 4 0 0),(5,iV (n:Int)),(6,.lst 1 [[.str [109,97,105,110]],[.str [116,49]],[.str [116,50]],[.str [116,51]]]),(7,iV (i:Int)),(8,.ptr s0.length 0 0)]/\TH s0 s' nm u2 L .nils []) ?_ ?_
  .intro k2 qf;simp only[go_sem,qD];exact qf _ _ ⟨rfl,Bdc pw nm⟩
  clear pw;rintro _ s ⟨rfl,th⟩;refine H7 (fun e s'=>(e=[(2,.ptr 0 0 0),(3,.ptr 2 0 0),(4,.ptr 4 0 0),(5,iV (n:Int)),(6,.lst 1 [[.str [109,97,105,110]],[.str [116,49]],[.str [116,50]],[.str [116,51]]]),(7,iV (i:Int)),(8,.ptr s0.length 0 0)]\/∃ v,e=[(2,.ptr 0 0 0),(3,.ptr 2 0 0),(4,.ptr 4 0 0),(5,iV (n:Int)),(6,.lst 1 [[.str [109,97,105,110]],[.str [116,49]],[.str [116,50]],[.str [116,51]]]),(7,iV (i:Int)),(8,.ptr s0.length 0 0),(9,v)])/\∃ uB B,TH s0 s' nm u2 L uB B/\(∀ x∈B,SM 2 x)/\B.length<=3) ?_ ?_
  .intro k2 qf;by_cases qz:i=0;rotate_left
   .have f1:((i:Int)==0)=false:=by simp;omega
    simp only[go_sem,f1];exact qf _ _ ⟨.inl rfl,_,_,th,(fun x hx=>by cases hx),by simp⟩
   .have f1:((i:Int)==0)=true:=by simp[qz]
    simp only[go_sem,f1];refine Bn (α:=Nat × St × V × List Sp) (fun a=>n - a.1) (fun a=>[(2,.ptr 0 0 0),(3,.ptr 2 0 0),(4,.ptr 4 0 0),(5,iV (n:Int)),(6,.lst 1 [[.str [109,97,105,110]],[.str [116,49]],[.str [116,50]],[.str [116,51]]]),(7,iV (i:Int)),(8,.ptr s0.length 0 0),(9,iV (a.1:Int))]) (fun a=>a.2.1) (fun a=>(1<=a.1/\a.1<=n)/\TH s0 a.2.1 nm u2 L a.2.2.1 a.2.2.2/\(∀ x∈a.2.2.2,SM 2 x)/\a.2.2.2.length+1=a.1) ?_ (1,s,.nils,[]) ⟨by simp only;omega,th,(fun d hd=>by cases hd),rfl⟩;clear th s;rintro⟨j,s,uB,B⟩ ⟨hj,th,hB,qn⟩ ih;simp only at hj th hB qn ih;refine Bl Bgi ?_;rcases Be j n with h3 | h3;rotate_left
    .simp only[go_sem,Bq h3];exact qf _ _ ⟨.inr ⟨_,rfl⟩,uB,B,th,hB,by omega⟩
    obtain⟨nj,qO,qB⟩:=Yj [[109,97,105,110],[116,49],[116,50],[116,51]] (by kernel_rfl) (j:=j) (by simp;omega);simp only[Bb,B7]at qO;obtain⟨u',s',ha,⟨c1,c2,c3⟩,r',-,th'⟩:=Ajo th (y:=.lst 1 [(Mb 12 nj).row]) (C:=[Mb 12 nj]) rfl (by simp;omega);rw[Wn]at ha;have r1:=th.r;simp only[go_sem,A0 h3];refine Ag (by kernel_rfl) ?_;simp only[go_sem,r1,qO];refine Ba ?_;simp only[go_sem,ha];refine Ba ?_;simp only[go_sem,r',c1,c2,c3];refine Ba ?_;simp only[go_sem,A2 (show j<9223372036854775807 by omega)];refine As (ih (j+1,_,u',B++[Mb 12 nj]) (by simp only;omega) ⟨by simp only;omega,th',fun x hx=>?_,by rw[Al,Hw,qn]⟩) rfl;rcases B8.1 hx with hx | hx
    .exact hB x hx
    .rw[Eo.1 hx];exact Z6 (by omega) qB
  clear th s;rintro e s ⟨he,uB,B,th,hB,qn⟩;refine H7 (fun e s'=>(e=[(2,.ptr 0 0 0),(3,.ptr 2 0 0),(4,.ptr 4 0 0),(5,iV (n:Int)),(6,.lst 1 [[.str [109,97,105,110]],[.str [116,49]],[.str [116,50]],[.str [116,51]]]),(7,iV (i:Int)),(8,.ptr s0.length 0 0)]\/∃ v,e=[(2,.ptr 0 0 0),(3,.ptr 2 0 0),(4,.ptr 4 0 0),(5,iV (n:Int)),(6,.lst 1 [[.str [109,97,105,110]],[.str [116,49]],[.str [116,50]],[.str [116,51]]]),(7,iV (i:Int)),(8,.ptr s0.length 0 0),(9,v)])/\∃ uB B,TH s0 s' nm u2 L uB B/\(∀ x∈B,SM 2 x)/\B.length<=8) ?_ ?_
  .intro k2 qf;obtain⟨_,_,_,_,_,_,_,m1,-⟩:=Zr th.pw;obtain⟨uH,hk⟩:=th.pw.hk;obtain⟨r,s2,q2,h2,w2,l2,rb,qR⟩:=Po hk 3 3 rfl (by omega);have qo:=Akm th h2 w2;have er:IntKind.i64.wrap (1+(r:Int))=((1+r:Nat):Int):=by rw[Ch (by omega)];omega
   obtain⟨u,s3,q3,L3,jz,hO,qJ,qY,h3,w3⟩:=(Aoe 2 (by omega) 2 (by omega)).2 s2 2 1 uH [] h2 (by simp) (1+r) (by omega);have qI:=Akm qo h3 w3;obtain⟨u',s',ha,⟨c1,c2,c3⟩,r',qQ,th'⟩:=Ajo qI (C:=L3) (Bdb hO.1) (by omega);have m2:=qR.trans m1;obtain⟨_,_,_,_,_,_,_,m3,-⟩:=Zr qI.pw;have m4:=qQ.trans m3;have r1:=th.r;have r2:=qo.r;have r3:=qI.r;have q3:Bv TT PT 46 [.ptr 2 0 0,iV 2,iV ((1+r:Nat):Int)] s2 u s3:=q3;rcases he with rfl | ⟨v,rfl⟩
   all_goals
    refine Ag (by kernel_rfl) ?_;simp only[go_sem,r1,m1];refine Hh q2 ?_;simp only[go_sem,er];refine Hh q3 ?_;simp only[go_sem,ha];refine Ba ?_;simp only[go_sem,r',c1,c2,c3];refine Ba ?_;simp only[go_sem]
   .exact qf _ _ ⟨.inl rfl,_,_,th',fun x hx=>(B8.1 hx).elim (hB x) (qJ x),by rw[Al];omega⟩
   .exact qf _ _ ⟨.inr ⟨_,rfl⟩,_,_,th',fun x hx=>(B8.1 hx).elim (hB x) (qJ x),by rw[Al];omega⟩
  clear th hB qn he uB B s e;rintro e s ⟨he,uB,B,th,hB,qn⟩;refine H7 (fun e s'=>(e=[(2,.ptr 0 0 0),(3,.ptr 2 0 0),(4,.ptr 4 0 0),(5,iV (n:Int)),(6,.lst 1 [[.str [109,97,105,110]],[.str [116,49]],[.str [116,50]],[.str [116,51]]]),(7,iV (i:Int)),(8,.ptr s0.length 0 0)]\/∃ v,e=[(2,.ptr 0 0 0),(3,.ptr 2 0 0),(4,.ptr 4 0 0),(5,iV (n:Int)),(6,.lst 1 [[.str [109,97,105,110]],[.str [116,49]],[.str [116,50]],[.str [116,51]]]),(7,iV (i:Int)),(8,.ptr s0.length 0 0),(9,v)])/\∃ uB B,TH s0 s' nm u2 L uB B/\(∀ x∈B,SM 2 x)/\B.length<=9) ?_ ?_
  .intro k2 qf;by_cases qz:i=0;rotate_left
   .have f1:((i:Int)==0)=false:=by simp;omega
    rcases he with rfl | ⟨v,rfl⟩
    all_goals simp only[go_sem,f1]
    .exact qf _ _ ⟨.inl rfl,_,_,th,hB,by omega⟩
    .exact qf _ _ ⟨.inr ⟨_,rfl⟩,_,_,th,hB,by omega⟩
   have f1:((i:Int)==0)=true:=by simp[qz]
   obtain⟨_,_,_,_,_,_,_,m1,-⟩:=Zr th.pw;obtain⟨uH,hk⟩:=th.pw.hk;obtain⟨r,s2,q2,h2,w2,l2,rb,qR⟩:=Po hk 3 3 rfl (by omega);have qo:=Akm th h2 w2;by_cases ji:r=2
   .subst ji;obtain⟨u',s',ha,⟨c1,c2,c3⟩,r',qQ,th'⟩:=Ajo qo (y:=.lst 1 [(Mb 13 [116,49]).row]) (C:=[Mb 13 [116,49]]) rfl (by simp;omega);rw[Wn]at ha;have r2:=qo.r;rcases he with rfl | ⟨v,rfl⟩
    all_goals
     simp only[go_sem,f1,m1];refine Ac q2 ?_;simp only[go_sem,C6,Int.reduceBEq];refine Ag (by kernel_rfl) ?_;simp only[go_sem,r2];refine Ba ?_;simp only[go_sem,ha];refine Ba ?_;simp only[go_sem,r',c1,c2,c3];refine Ba ?_;simp only[go_sem]
    .exact qf _ _ ⟨.inl rfl,_,_,th',fun x hx=>(B8.1 hx).elim (hB x) fun hx=>by rw[Eo.1 hx];exact Z6 (by omega) (Ha (by kernel_rfl)),by rw[Al,Hw];omega⟩
    .exact qf _ _ ⟨.inr ⟨_,rfl⟩,_,_,th',fun x hx=>(B8.1 hx).elim (hB x) fun hx=>by rw[Eo.1 hx];exact Z6 (by omega) (Ha (by kernel_rfl)),by rw[Al,Hw];omega⟩
   .have fr:((r:Int)==2)=false:=by simp;omega
    rcases he with rfl | ⟨v,rfl⟩
    all_goals
     simp only[go_sem,f1,m1];refine Ac q2 ?_;simp only[go_sem,fr]
    .exact qf _ _ ⟨.inl rfl,_,_,qo,hB,by omega⟩
    .exact qf _ _ ⟨.inr ⟨_,rfl⟩,_,_,qo,hB,by omega⟩
  clear th hB qn he uB B s e;rintro e s ⟨he,uB,B,th,hB,qn⟩;obtain⟨s1,u',s2,e1,e2,⟨c1,c2,c3⟩,p2,qS⟩:=Bdd th (by omega);have r1:=th.r;have p1:=th.pw.p;have jm:V.cellB uB=true:=Cu th.g;rcases he with rfl | ⟨v,rfl⟩
  all_goals
   simp only[go_sem,r1,p1,jm,e1,e2,p2,c1,c2,c3]
  .exact qc _ _ ⟨.inl rfl,u',_,qS,⟨qC,rfl,hB,by simp only;omega⟩,rfl⟩
  .exact qc _ _ ⟨.inr ⟨_,rfl⟩,u',_,qS,⟨qC,rfl,hB,by simp only;omega⟩,rfl⟩
 clear pw s;rintro _ s ⟨⟨i,rfl⟩,u2,L,pw,hL,qp,qX,qq⟩;obtain⟨qE,qG⟩:=Aso (z1:=true) (t1:=0) (z2:=true) (t2:=0) hL qp qX qq;obtain⟨o1,c1⟩:=Aum pw.d;have o2:=Mp pw.g (by omega) (Tb L) (Abz L);have c2:=Cu pw.g;obtain⟨_,q4,e4,l4,rfl⟩:=A3y (Cw qE.blk (by omega)) qE.ln qG;have p1:=pw.p;have z1:=pw.z;have qd:Gp.row ⟨true,0,declsL,true,0,L⟩=[SL true 0 (declsL.map Dp.row),SL true 0 (L.map Tp.row)]:=rfl;rw[qd]at q4;simp only[go_sem,p1];refine Avb (.cons (Tv (.cons o1 (.cons o2 .nil))) .nil) q4 (by rfl) ?_;by_cases h0:e4=0
 .have f1:(e4==0)=true:=by simp[h0]
  simp only[go_sem,bne,f1,Ay,p1,z1,c1,c2];have z5:(s.set 0 (.row [.sl 3 0 0 9 6 true,u2] 29 0 0))[0]?=some (.row [.sl 3 0 0 9 6 true,u2] 29 0 0):=B5 (by have:=pw.l5;omega);refine⟨_,_,true,0,true,0,declsL,L,Ur z5 rfl rfl,Aum (by rw[Bh (by omega)];exact pw.d),⟨?_,c2⟩,qE⟩;exact Mp (K6 pw.g fun j hj=>Bh fun e=>by have:=(Dx pw.g j hj).1;omega) (by omega) (Tb L) (Abz L)
 .have f1:(e4==0)=false:=by simp[h0]
  have qT:=Vc [120] (F9 1);simp only[F9,SL,B7,and_self,true_and,if_true]at qT;have jx:=pw.l5;simp only[go_sem,bne,f1,A1];refine Ju (Am4 _) ?_;simp only[go_sem];refine Ad (Afc _) (by rfl) ?_;simp only[go_sem];refine Ad qT (by rfl) ?_;have z6:=Bx (l:=([.row (declsL.map Dp.row).flatten 86 0 0]:St)) z1;simp only[go_sem,z6];have z5:((s++([.row (declsL.map Dp.row).flatten 86 0 0]:St)).set 0 (.row [.sl s.length 0 0 9 6 true,.lst 1 [[.str [109,97,105,110],iV 0,.lst 1 [[.str [97]],[.str [98]]],.lst 1 [[iV 1,iV 0,.str [120],.str [],.nils,iV 1,iV 1,.str [],.nils,.nils,.nils]]]]] 29 0 0))[0]?=some (.row [.sl s.length 0 0 9 6 true,.lst 1 [[.str [109,97,105,110],iV 0,.lst 1 [[.str [97]],[.str [98]]],.lst 1 [[iV 1,iV 0,.str [120],.str [],.nils,iV 1,iV 1,.str [],.nils,.nils,.nils]]]]] 29 0 0):=B5 (by simp);have hM:Qo ⟨[109,97,105,110],0,true,1,[[97],[98]],true,1,[Ma [120] (F9 1)]⟩:=⟨Ha (by kernel_rfl),rfl,fun s hs=>by rw[Eo.1 hs];exact Akl (Ha (by kernel_rfl)) Bdg,by simp⟩;obtain⟨qF,-⟩:=Aso (z1:=true) (t1:=0) (z2:=true) (t2:=1) (L:=[⟨[109,97,105,110],0,true,1,[[97],[98]],true,1,[Ma [120] (F9 1)]⟩]) (fun t ht=>by rw[Eo.1 ht];exact hM) (by simp) (by simp) (by simp);refine⟨.sl s.length 0 0 9 6 true,.lst 1 [[.str [109,97,105,110],iV 0,.lst 1 [[.str [97]],[.str [98]]],.lst 1 [[iV 1,iV 0,.str [120],.str [],.nils,iV 1,iV 1,.str [],.nils,.nils,.nils]]]],true,0,true,1,declsL,[⟨[109,97,105,110],0,true,1,[[97],[98]],true,1,[Ma [120] (F9 1)]⟩],Ur z5 rfl rfl,⟨?_,rfl⟩,⟨?_,rfl⟩,qF⟩
  .have h3:(s++([.row (declsL.map Dp.row).flatten 86 0 0]:St))[s.length]?=some (.row (declsL.map Dp.row).flatten 86 0 0):=by simp
   exact Ud (xs:=declsL.map Dp.row) (by rw[Bh (by omega)];exact h3) (by omega) (Aby declsL) (Ag6 declsL)
  .have hr:SL true 1 ([(⟨[109,97,105,110],0,true,1,[[97],[98]],true,1,[Ma [120] (F9 1)]⟩:Tp)].map Tp.row)=.lst 1 [[.str [109,97,105,110],iV 0,.lst 1 [[.str [97]],[.str [98]]],.lst 1 [[iV 1,iV 0,.str [120],.str [],.nils,iV 1,iV 1,.str [],.nils,.nils,.nils]]]]:=by
    simp only[Bb,B7,Tp.row,Ad3];rfl
   rw[hr];exact Ff rfl
def Gv(l:List UInt8):Nat:=l.count 10
def Iw(a b:List UInt8):Gv (a++b)=Gv a+Gv b:=List.count_append
def Jw(c:UInt8)(l:List UInt8):Gv (c::l)=Gv l+if c=10 then 1 else 0:=by
 unfold Gv;rw[List.count_cons]
 by_cases h:c=10<;>simp[h]
def A8r{l:List UInt8}(h:∀ c∈l,c≠10):Gv l=0:=List.count_eq_zero.2 fun hm=>h 10 hm rfl
mutual
def Sp.lns:Sp->Nat
 | ⟨op,_,_,_,_,_,_,_,_,_,body,_,_,els⟩=>1+(if B4 op then 1+Sp.lnss body else 0)+(if els.isEmpty then 0 else 1+Sp.lnss els)
def Sp.lnss:List Sp->Nat
 | []=>0
 | x::l=>x.lns+Sp.lnss l
end
def Bdh{l:List UInt8}{j:Nat}(h:N3 l j=true):l.getD j 0≠10:=fun e=>by
 unfold N3 at h;rw[e]at h
 cases j<;>simp[Lz,R6]at h
def Aep{l:List UInt8}(h:Cc l=true):Gv l=0:=by
 refine A8r fun c hc=>?_
 obtain⟨i,hi,rfl⟩:=Qq hc;unfold Cc at h;simp only[Af,Bp]at h;have:=Bdh (h.2.2.2 i (E1.2 hi))
 rwa [Av,Bc hi]at this
def Ajp:∀ (k u:Nat),Gv (Ny k u)=0
 | 0,_=>rfl
 | k+1,u=>by
  have hd:∀ n,n<10->Gv [UInt8.ofNat (48+n)]=0:=by decide
  unfold Ny
  split
  .exact hd u (by omega)
  .rw[Iw,Ajp k,hd _ (by omega)]
def A8s(n:Int):Gv (C2 n)=0:=by
 unfold C2
 split
 .rw[Jw,Ajp];decide
 .exact Ajp _ _
def Avx(op:Int):Gv (Cs op)=0:=by
 unfold Cs
 split<;>decide
def Ajq{o:Int × List UInt8}(h:Gv o.2=0)(v:Int):Gv (D7 o v)=0:=by
 unfold D7
 split
 .rw[Jw,Iw,h];decide
 .exact h
def Aun{x:Xp}(h:ShE x):Gv x.txt=0:=by
 induction h with
 | num h=>
  rw[Fq];simp only[Ed,if_pos];exact A8s _
 | name h=>
  rw[Fq];simp only[Ed];exact Aep h
 | idx hn ha ih=>
  rw[Fq];simp only[Ed,Bb,B7];simp only[Int.reduceEq,if_false,if_true];rw[Iw,Jw,Iw,Aep hn,ih];decide
 | @un op z t a ho ha ih=>
  rw[Fq];simp only[Ed,Bb,B7];rw[if_neg (by omega),if_neg (by omega),if_neg (by omega),Iw,Avx,Ajq ih]
 | @bin op z t a b ho ha hb iha ihb=>
  rw[Fq];simp only[Ed,Bb,B7];rw[if_neg (by omega),if_neg (by omega),Iw,Jw,Iw,Jw,Avx,Ajq iha,Ajq ihb];decide
def Y6(op:Int):Gv (C8 op)=0:=by
 unfold C8
 split<;>decide
def A8t{s:Sp}(h:ShS s):Gv (Cv s)=0:=by
 obtain⟨h1,h2,h3,h4,h5,h6,h7,h8,h9,jq,js,jt,ju,jv⟩:=h
 have hn:Gv s.nm=0:=by
  cases e:Gg s.op
  .exact Aep (h3 e)
  .rw[h2 e];rfl
 have ha:Gv s.arg=0:=by
  by_cases e:s.op=15
  .exact Aep (h4 e)
  .rw[h5 e];rfl
 have hx:Ei s.op=true->Gv s.ex.txt=0:=fun e=>Aun (h9 e)
 have hi:Gv (F4 s.idx)=0:=by
  unfold F4
  split
  .rename_i a r e;rw[Jw,Iw,Aun (h8 a (by rw[e];simp))];decide
  .rfl
 unfold Cv
 split
 .rename_i e;rw[Iw,Iw,Jw,Jw,Jw,hn,hi,hx (by rw[e];rfl)];decide
 split
 .rename_i e;rw[Iw,Jw,Y6,hx (by rcases e with e | e<;>rw[e]<;>rfl)];decide
 split
 .exact Y6 _
 split
 .rename_i e;rw[Iw,Jw,Iw,Jw,Y6,hn,hx (by rw[e];rfl)];decide
 split
 .rw[Iw,Jw,Iw,Jw,Y6,hn,ha];decide
 .rw[Iw,Jw,Y6,hn];decide
def ixU(c:UInt8):∀ (a r:List UInt8),c ∉ a->Lib.index (a++c::r) [c]=(a.length:Int)/\Lib.indexByte (a++c::r) c=(a.length:Int)
 | [],r,_=>by
  have hp:List.isPrefixOf [c] (c::r)=true:=by simp[List.isPrefixOf]
  constructor
  .rw[Cr];unfold Lib.index;rw[hp];rfl
  .rw[Cr,Lib.indexByte];simp
 | b::a,r,h=>by
  have hb:(c==b)=false:=by simp at h ⊢;exact h.1
  have qw:(b==c)=false:=by simp at h ⊢;exact fun e=>h.1 e.symm
  obtain⟨h1,h2⟩:=ixU c a r (by simp at h;exact h.2);have hp:List.isPrefixOf [c] (b::(a++c::r))=false:=by simp[List.isPrefixOf]at hb ⊢;exact hb
  have hn:((a.length:Int) == -1)=false:=by simp
  constructor
  .rw[Hz];unfold Lib.index;rw[hp,h1];simp only[F6,if_false,hn,Am];omega
  .rw[Hz,Lib.indexByte,h2];simp only[qw,F6,if_false,hn,Am];omega
def Bj3{c:UInt8}{a r:List UInt8}(h:c ∉ a):Lib.cut (a++c::r) [c]=(a,r,true):=by
 have hi:=(ixU c a r h).1;unfold Lib.cut;rw[hi,if_pos (by omega)];simp
def Eu(s:Sp):List UInt8:=Cv s++if B4 s.op then [32,123] else [59]
mutual
def Sp.hds:Sp->List (List UInt8)
 | ⟨op,line,nm,arg,iz,it,idx,ex,bz,bt,body,ez,et,els⟩=>Eu ⟨op,line,nm,arg,iz,it,idx,ex,bz,bt,body,ez,et,els⟩::(Sp.hdss body++Sp.hdss els)
def Sp.hdss:List Sp->List (List UInt8)
 | []=>[]
 | x::l=>x.hds++Sp.hdss l
end
def Auo(s:Sp):s.hds=Eu s::(Sp.hdss s.body++Sp.hdss s.els):=by
 cases s;rw[Sp.hds]
mutual
theorem A8u:∀ s:Sp,s.hds.length=s.sz
 | ⟨op,line,nm,arg,iz,it,idx,ex,bz,bt,body,ez,et,els⟩=>by
  rw[Auo,Mm];simp only[Am,Al];rw[Io body,Io els];omega
theorem Io:∀ l:List Sp,(Sp.hdss l).length=Sp.szs l
 | []=>rfl
 | x::l=>by rw[Sp.hdss,Sp.szs,Al,A8u x,Io l]
end
def Asp{s:Sp}(h:ShS s):(10:UInt8) ∉ Eu s:=by
 have h0:Gv (Eu s)=0:=by
  unfold Eu;rw[Iw,A8t h]
  split<;>decide
 exact List.count_eq_zero.1 h0
def Alj(s:Sp):∃ r,s.txt 0=Eu s++10::r:=by
 rw[Lr];unfold Eu
 split
 .exact⟨Sp.txts (0+1) s.body++((if s.els.isEmpty then [] else El 0++125::32::101::108::115::101::32::123::10::Sp.txts (0+1) s.els)++(El 0++[125,10])),by simp[El]⟩
 .exact⟨[],by simp[El]⟩
def Ie(s:Sp):Sp:=⟨s.op,s.line,s.nm,s.arg,s.iz,s.it,s.idx,s.ex,true,0,[],true,0,[]⟩
def A0t(s:Sp):Eu (Ie s)=Eu s:=rfl
def A8v{s:Sp}(h:CnS s):CnS (Ie s):=by
 cases h with
 | mk h1 h2 h3 h4 h5 h6 h7 h8 h9=>exact .mk h1 h2 h3 h4 h5 (fun _=>rfl) (fun _=>rfl) (fun x hx=>by cases hx) (fun x hx=>by cases hx)
def A34(s:Sp):(∃ r,(Ie s).txt 0=Eu s++10::r)/\((Ie s).txt 0).length<=(Eu s).length+10:=by
 refine⟨A0t s ▸ Alj (Ie s),?_⟩;rw[Lr];unfold Eu;have:(Ie s).op=s.op:=rfl;have h2:Cv (Ie s)=Cv s:=rfl;rw[this,h2]
 split
 .simp[El,Ie,Sp.txts]
 .simp[El]
mutual
theorem A35:∀ (s:Sp) (d d':Nat),d<=d'->(s.txt d).length<=(s.txt d').length
 | ⟨op,line,nm,arg,iz,it,idx,ex,bz,bt,body,ez,et,els⟩,d,d',h=>by
  have h1:=Vl body (d+1) (d'+1) (by omega);have h2:=Vl els (d+1) (d'+1) (by omega);rw[Lr,Lr];simp only[Al,Jv]
  split
  .cases els<;>simp[Jv]at h2 ⊢<;>omega
  .simp;omega
theorem Vl:∀ (l:List Sp) (d d':Nat),d<=d'->(Sp.txts d l).length<=(Sp.txts d' l).length
 | [],_,_,_=>by simp[Sp.txts]
 | x::l,d,d',h=>by
  have h1:=A35 x d d' h;have h2:=Vl l d d' h;rw[Nc,Nc,Al,Al];omega
end
def Asq(s:Sp):(Eu s).length+1<=(s.txt 0).length:=by
 obtain⟨r,hr⟩:=Alj s;rw[hr];simp
def A8w{s:Sp}(h:B4 s.op=true):(Eu s).length+(Sp.txts 0 s.body).length+(Sp.txts 0 s.els).length<=(s.txt 0).length:=by
 have h1:=Vl s.body 0 1 (by omega);have h2:=Vl s.els 0 1 (by omega);rw[Lr,if_pos h];unfold Eu;rw[if_pos h]
 cases he:s.els with
 | nil=>rw[he]at h2;simp[El,Sp.txts]at h2 ⊢;omega
 | cons a l=>rw[he]at h2;simp[El]at h2 ⊢;omega
def Aqu(X:List (List UInt8)):∀ r∈X.map fun x=>[V.str x],r.length=1:=fun r hr=>by obtain⟨x,-,rfl⟩:=Ct.1 hr;rfl
def Aqv(X:List (List UInt8)):∀ r∈X.map fun x=>[V.str x],r.all V.rowB=true:=fun r hr=>by obtain⟨x,-,rfl⟩:=Ct.1 hr;rfl
structure GL (lo:Nat) (σ τ:St) (u v:V) (X:List (List UInt8)):Prop where
 len:σ.length<=τ.length
 g:GW τ 1 9 lo v (X.map fun x=>[V.str x])
 kp:∀ j,j<σ.length->j ∉ u.refs->τ[j]?=σ[j]?
 rf:∀ j∈v.refs,j∈u.refs\/σ.length<=j
 cl:Cl τ
def Asr{lo:Nat}{σ:St}{u:V}{X:List (List UInt8)}(h:GW σ 1 9 lo u (X.map fun x=>[V.str x]))(hc:Cl σ):GL lo σ σ u u X:=⟨Ai _,h,fun _ _ _=>rfl,fun _ hj=>.inl hj,hc⟩
def Ym{lo:Nat}{σ τ υ:St}{u v w:V}{X Y:List (List UInt8)}(h:GL lo σ τ u v X)(h':GL lo τ υ v w Y):GL lo σ υ u w Y:=by
 refine⟨Cw h.len h'.len,h'.g,fun j hj hn=>?_,fun j hj=>?_,h'.cl⟩
 .rw[h'.kp j (by have:=h.len;omega) fun e=>?_,h.kp j hj hn];rcases h.rf j e with h2 | h2
  .exact hn h2
  .omega
 .rcases h'.rf j hj with h2 | h2
  .exact h.rf j h2
  .exact .inr (by have:=h.len;omega)
def Ass{lo:Nat}{σ τ:St}{u v:V}{X:List (List UInt8)}(h:GL lo σ τ u v X)(l:St)(hc:Cl (τ++l)):GL lo σ (τ++l) u v X:=
 ⟨by rw[Al];have:=h.len;omega,Gk h.g,fun j hj hn=>by rw[B6 (by have:=h.len;omega)];exact h.kp j hj hn,h.rf,hc⟩
def Aup{lo:Nat}{σ τ:St}{u v:V}{X:List (List UInt8)}(h:GL lo σ τ u v X)(ql:lo<=σ.length)(s:List UInt8)(hb:X.length<=1000000000):∃ v' τ',D6 16 (1,9) v (.lst 1 [[.str s]]) τ=some (v',τ')/\v'.cellB=true/\GL lo σ τ' u v' (X++[s])/\∀ j,j<τ.length->j ∉ v.refs->τ'[j]?=τ[j]?:=by
 obtain⟨v',τ',h1,h2,h3,h4,h5,h6⟩:=Pp (bytes:=16) (y:=.lst 1 [[.str s]]) (ys:=[[.str s]]) h.g (by have:=h.len;omega) rfl (by omega) (Aqu X) (by simp) (by simp[V.rowB]) (by rw[Ap];simp;omega);refine⟨v',τ',h1,Cu h2,Ym h ⟨h3,by rw[Dw];exact h2,h4,h5,h6 h.cl⟩,h4⟩
def M7(f:Nat)(l:List Sp):Prop:=∀ (lo:Nat) (σ:St) (u:V) (X:List (List UInt8)) (z:Bool) (t:Nat),GW σ 1 9 lo u (X.map fun x=>[V.str x])->lo<=σ.length->Cl σ->X.length+Sp.szs l<=1000000000 ->
  ∃ v τ,Bv TT PT f [u,SL z t (l.map Sp.row)] σ v τ/\GL lo σ τ u v (X++Sp.hdss l)
structure TxL (l:List Sp):Prop where
 sh:∀ x∈l,ShS x
 len:(Sp.txts 0 l).length<=2000000000
def Ait{l:List Sp}(h:TxL l){x:Sp}(hx:x∈l):ShS x/\(x.txt 0).length<=2000000000/\TxL x.body/\TxL x.els:=by
 have h1:=h.sh x hx;have h2:=X7 0 hx;have h3:=h.len;refine⟨h1,by omega,?_⟩
 cases h1 with
 | mk a1 a2 a3 a4 a5 a6 a7 a8 a9 a10 a11 a12 a13 a14=>
  cases hb:B4 x.op
  .have e1:x.body=[]:=a11 hb;have e2:x.els=[]:=a12 fun e=>by rw[e]at hb;cases hb
   rw[e1,e2];exact⟨⟨(fun x hx=>by cases hx),by simp[Sp.txts]⟩,⟨(fun x hx=>by cases hx),by simp[Sp.txts]⟩⟩
  .have:=A8w hb;exact⟨⟨a13,by omega⟩,⟨a14,by omega⟩⟩
def Aog{l:List Sp}{i:Nat}{y:Sp}(h:l.drop i=y::l.drop (i+1)):Sp.hdss (l.drop i)=Eu y::(Sp.hdss y.body++(Sp.hdss y.els++Sp.hdss (l.drop (i+1)))):=by
 rw[h,Sp.hdss,Auo];simp
def A36(y:Sp):(Ie y).row=[iV y.op,iV y.line,.str y.nm,.str y.arg,SL y.iz y.it (y.idx.map Xp.row),iV y.ex.op,iV y.ex.n,.str y.ex.nm,SL y.ex.z y.ex.t (y.ex.l.map Xp.row),.nils,.nils]:=by
 rw[Fg];rfl
def Ad5:∀ l:List Sp,l.length<=Sp.szs l
 | []=>Au _
 | x::l=>by
  have h1:=Ad5 l;have h2:=Mm x;rw[Am,Sp.szs];omega
set_option maxHeartbeats 4000000 in
def A37{l:List Sp}(hl:TxL l)(ih:∀ x∈l,M7 83 x.body/\M7 83 x.els):M7 83 l:=by
 intro lo σ u X z t hg ql hc hX;have qj:(l.map Sp.row).length=l.length:=Ap ..;refine Acj T83 rfl ?_;simp only[go_sem,qj];refine Bn (α:=Nat × St × V × List (List UInt8)) (fun a=>l.length - a.1) (fun a=>[(0,a.2.2.1),(9,SL z t (l.map Sp.row)),(10,iV (l.length:Int)),(11,iV (a.1:Int))]) (fun a=>a.2.1) (fun a=>a.1<=l.length/\GL lo σ a.2.1 u a.2.2.1 a.2.2.2/\a.2.2.2++Sp.hdss (l.drop a.1)=X++Sp.hdss l) ?_ (0,σ,u,X) ⟨Au _,Asr hg hc,rfl⟩;rintro⟨i,s,v,Y⟩ ⟨hi,hG,hY⟩ jh;simp only at hi hG hY jh;have qv:=congrArg List.length hY;rw[Al,Al,Io,Io]at qv;have qi:=Cu hG.g;refine Bl Bhu ?_;rcases Be i l.length with h' | h';rotate_left
 .rw[Fo h',Sp.hdss,B3]at hY;subst hY;simp only[go_sem,Bq h'];exact⟨v,rfl,⟨by cases v<;>simp[V.cellB]at qi<;>rfl,fun j hj=>(Dx hG.g j hj).2⟩,⟨hG.len,hG.cl⟩,hG⟩
 obtain⟨y,hy,hd,hm⟩:=By h';obtain⟨qs,jl,qZ,qw⟩:=Ait hl hm;have jd:=Ad5 l;have qd:=Fg y;have qe:=Gu y;have hq:=Ap0 (Ajd qs) 0 (by omega);obtain⟨r,hr⟩:=Alj y;have qN:=(ixU 10 (Eu y) r (Asp qs)).2;rw[<-hr]at qN;have jb:=Asq y
 have jp:R9 [.str (y.txt 0),.int .u8 10]=some (iV ((Eu y).length:Int)):=by
  show some (iV (Lib.indexByte (y.txt 0) 10))=_;rw[qN]
 obtain⟨s1,e1⟩:∃ s1:St,s1=s++[.row y.row 104 0 0]:=⟨_,rfl⟩;have k1:s1[s.length]?=some (.row y.row 104 0 0):=by rw[e1];simp
 have G1:GL lo σ s1 u v Y:=by rw[e1];exact Ass hG _ (Iu hG.cl qe)
 have qt:∀ j∈v.refs,j<s.length:=fun j hj=>(Dx hG.g j hj).2
 have qy:=Aog hd;rw[qy]at hY;have qG:Sp.szs (l.drop i)=y.sz+Sp.szs (l.drop (i+1)):=by rw[hd,Sp.szs]
 have jn:=Mm y;obtain⟨v2,s2,ha,ja,G2,qH⟩:=Aup G1 ql (Eu y) (by omega);have k2:s2[s.length]?=_:=(qH s.length (by rw[e1];simp) fun e=>by have:=qt _ e;omega).trans k1
 have n2:s.length ∉ v2.refs:=fun e=>by
  have h9:∀ j∈v2.refs,j∈v.refs\/s1.length<=j:=by
   obtain⟨q1,-⟩:=Ad4 ha rfl (by simp[V.rowB]) (Ahw G1.g);exact q1
  rcases h9 _ e with h8 | h8
  .have:=qt _ h8;omega
  .rw[e1]at h8;simp at h8;omega
 obtain⟨v3,s3,q3,G3⟩:=(ih y hm).1 lo s2 v2 (Y++[Eu y]) y.bz y.bt G2.g (by have:=G2.len;omega) G2.cl (by rw[Al,Hw];omega);have l2:s.length<s2.length:=(Ak.1 k2).1;have k3:s3[s.length]?=_:=(G3.kp s.length l2 n2).trans k2
 have n3:s.length ∉ v3.refs:=fun e=>by
  rcases G3.rf _ e with h8 | h8
  .exact n2 h8
  .omega
 have l3:s.length<s3.length:=(Ak.1 k3).1;obtain⟨v4,s4,q4,G4⟩:=(ih y hm).2 lo s3 v3 (Y++[Eu y]++Sp.hdss y.body) y.ez y.et G3.g (by have:=G2.len;have:=G3.len;omega) G3.cl (by rw[Al,Al,Hw,Io];omega);have G14:=Ym G2 (Ym G3 G4);rw[qd]at e1 k1 k2 k3 hq qe;have f0:(0<=((Eu y).length:Int))=True:=eq_true (by omega);have qU:((Eu y).length<=(y.txt 0).length)=True:=eq_true (by omega);have qV:(y.txt 0).take (Eu y).length=Eu y:=by rw[hr];simp
 rw[Int.natCast_zero]at hq;simp only[go_sem,A0 h',Aj,hy,qd];rw[<-e1];refine Ad hq (by simp only[go_sem]) ?_;simp only[go_sem];refine F7 P109 (by simp only[go_sem]) jp ?_;simp only[go_sem,ge_iff_le,f0,qU,qV,ha,k2];refine Ac q3 ?_;simp only[go_sem,k3];refine Ac q4 ?_;simp only[go_sem,A2 (show i<9223372036854775807 by omega)];refine As (jh (i+1,s4,v4,Y++[Eu y]++Sp.hdss y.body++Sp.hdss y.els) (by simp only;omega) ⟨h',G14,by rw[<-hY];simp⟩) rfl
set_option maxHeartbeats 4000000 in
def A38{l:List Sp}(hl:TxL l)(ih:∀ x∈l,M7 81 x.body/\M7 81 x.els):M7 81 l:=by
 intro lo σ u X z t hg ql hc hX;have qj:(l.map Sp.row).length=l.length:=Ap ..;refine Acj T81 rfl ?_;simp only[go_sem,qj];refine Bn (α:=Nat × St × V × List (List UInt8)) (fun a=>l.length - a.1) (fun a=>[(0,a.2.2.1),(11,SL z t (l.map Sp.row)),(12,iV (l.length:Int)),(13,iV (a.1:Int))]) (fun a=>a.2.1) (fun a=>a.1<=l.length/\GL lo σ a.2.1 u a.2.2.1 a.2.2.2/\a.2.2.2++Sp.hdss (l.drop a.1)=X++Sp.hdss l) ?_ (0,σ,u,X) ⟨Au _,Asr hg hc,rfl⟩;rintro⟨i,s,v,Y⟩ ⟨hi,hG,hY⟩ jh;simp only at hi hG hY jh;have qv:=congrArg List.length hY;rw[Al,Al,Io,Io]at qv;have qi:=Cu hG.g;refine Bl Bhr ?_;rcases Be i l.length with h' | h';rotate_left
 .rw[Fo h',Sp.hdss,B3]at hY;subst hY;simp only[go_sem,Bq h'];exact⟨v,rfl,⟨by cases v<;>simp[V.cellB]at qi<;>rfl,fun j hj=>(Dx hG.g j hj).2⟩,⟨hG.len,hG.cl⟩,hG⟩
 obtain⟨y,hy,hd,hm⟩:=By h';obtain⟨qs,jl,qZ,qw⟩:=Ait hl hm;have jd:=Ad5 l;have qd:=Fg y;have qe:=Gu y;have qK:=A36 y;have qL:=Gu (Ie y);obtain⟨⟨r,hr⟩,jw⟩:=A34 y;have jb:=Asq y;have hq:=A3i (A8v (Ajd qs)) 0 (by omega) (by rw[Mm];simp[Ie,Sp.szs]);have qM:=Bj3 (c:=10) (r:=r) (Asp qs);rw[<-hr]at qM
 have jo:Aae [.str ((Ie y).txt 0),.str [10]]=some (.tup [.str (Eu y),.str r,.bool true]):=by
  show(if((Ie y).txt 0).length<4294967281 then some (V.tup [.str (Lib.cut ((Ie y).txt 0) [10]).1,.str (Lib.cut ((Ie y).txt 0) [10]).2.1,.bool (Lib.cut ((Ie y).txt 0) [10]).2.2]) else none)=_;rw[if_pos (by omega),qM]
 have c1:Cl (s++[.row y.row 104 0 0,.row (Ie y).row 104 0 0]):=by
  have:=Iu (t:=104) (Iu (t:=104) hG.cl qe) qL;simpa using this
 obtain⟨s1,e1⟩:∃ s1:St,s1=s++[.row y.row 104 0 0,.row (Ie y).row 104 0 0]:=⟨_,rfl⟩;have k1:s1[s.length]?=some (.row y.row 104 0 0):=by rw[e1];simp
 have l1:s1.length=s.length+2:=by rw[e1];simp
 have G1:GL lo σ s1 u v Y:=by rw[e1];exact Ass hG _ c1
 have qt:∀ j∈v.refs,j<s.length:=fun j hj=>(Dx hG.g j hj).2
 have qy:=Aog hd;rw[qy]at hY;have qG:Sp.szs (l.drop i)=y.sz+Sp.szs (l.drop (i+1)):=by rw[hd,Sp.szs]
 have jn:=Mm y;obtain⟨v2,s2,ha,ja,G2,qH⟩:=Aup G1 ql (Eu y) (by omega);have k2:s2[s.length]?=_:=(qH s.length (by omega) fun e=>by have:=qt _ e;omega).trans k1
 have n2:s.length ∉ v2.refs:=fun e=>by
  have h9:∀ j∈v2.refs,j∈v.refs\/s1.length<=j:=by
   obtain⟨q1,-⟩:=Ad4 ha rfl (by simp[V.rowB]) (Ahw G1.g);exact q1
  rcases h9 _ e with h8 | h8
  .have:=qt _ h8;omega
  .omega
 obtain⟨v3,s3,q3,G3⟩:=(ih y hm).1 lo s2 v2 (Y++[Eu y]) y.bz y.bt G2.g (by have:=G2.len;omega) G2.cl (by rw[Al,Hw];omega);have l2:s.length<s2.length:=(Ak.1 k2).1;have k3:s3[s.length]?=_:=(G3.kp s.length l2 n2).trans k2;obtain⟨v4,s4,q4,G4⟩:=(ih y hm).2 lo s3 v3 (Y++[Eu y]++Sp.hdss y.body) y.ez y.et G3.g (by have:=G2.len;have:=G3.len;omega) G3.cl (by rw[Al,Al,Hw,Io];omega);have G14:=Ym G2 (Ym G3 G4);rw[qd,qK]at e1;rw[qd]at k1 k2 k3 qe;rw[qK]at hq qL;rw[Int.natCast_zero]at hq;simp only[go_sem,A0 h',Aj,hy,qd];rw[<-e1];refine Ad hq (by simp only[go_sem]) ?_;simp only[go_sem];refine F7 P136 (by simp only[go_sem]) jo ?_;simp only[go_sem,ha,k2];refine Ac q3 ?_;simp only[go_sem,k3];refine Ac q4 ?_;simp only[go_sem,A2 (show i<9223372036854775807 by omega)];refine As (jh (i+1,s4,v4,Y++[Eu y]++Sp.hdss y.body++Sp.hdss y.els) (by simp only;omega) ⟨h',G14,by rw[<-hY];simp⟩) rfl
def Ad6{f:Nat}(hs:∀ l,TxL l->(∀ x∈l,M7 f x.body/\M7 f x.els)->M7 f l):∀ (N:Nat) (l:List Sp),TxL l->Sp.szs l<=N->M7 f l
 | 0,l,h,hz=>hs l h fun x hx=>by
  have:=Y1 hx;have:=Mm x;omega
 | N+1,l,h,hz=>hs l h fun x hx=>by
  obtain⟨-,-,h1,h2⟩:=Ait h hx;have:=Y1 hx;have:=Mm x;exact⟨Ad6 hs N _ h1 (by omega),Ad6 hs N _ h2 (by omega)⟩
def Bdi{l:List Sp}(h:TxL l):M7 83 l:=Ad6 (fun _=>A37) _ l h (Ai _)
def Bdj{l:List Sp}(h:TxL l):M7 81 l:=Ad6 (fun _=>A38) _ l h (Ai _)
