/- Walks: the maker of programs: threads under way. -/
import Derived.Test.YthlbbjcbmojocabGreatDoorIi
set_option linter.all false
namespace Go.Proofs.YthlbbjcbmojocabGreatDoor.KM
open Go
def Lz{σ τ:St}{m e lo:Nat}{u:V}{xs:List (List V)}(h:GW σ m e lo u xs)(hk:∀ i∈u.refs,τ[i]?=σ[i]?):GW τ m e lo u xs:=by
 rcases h with h | ⟨hn,i,g,h,ho,ql⟩
 .exact .inl h
 .exact .inr ⟨hn,i,g,h,by rw[hk i (by rw[h];simp[V.refs])];exact ho,ql⟩
def Dz{σ:St}{m e lo:Nat}{u:V}{xs:List (List V)}(h:GW σ m e lo u xs):∀ i∈u.refs,lo<=i/\i<σ.length:=by
 intro j hj;rcases h with⟨rfl,-⟩ | ⟨hn,i,g,rfl,ho,ql⟩
 .simp[V.refs]at hj
 .simp[V.refs]at hj;subst hj;exact⟨ql,(Aq.1 ho).1⟩
def A7k{σ:St}{m e lo:Nat}{u:V}{xs:List (List V)}(h:GW σ m e lo u xs)(hl:∀ r∈xs,r.length=m):Fy σ m u=some xs:=by
 rcases h with⟨rfl,rfl⟩ | ⟨hn,i,g,rfl,ho,ql⟩
 .rfl
 .simp only[Fy,ho];rw[if_pos ⟨trivial,trivial,by rw[Lo hl];omega⟩,Ll,Z9 hl]
def A7l{σ:St}{m e:Nat}{u:V}{xs:List (List V)}(h:GS σ m e u xs):Fy σ m u=some xs:=by
 obtain⟨⟨hl,hr⟩,h⟩:=h;rcases h with⟨rfl,rfl⟩ | ⟨i,g,r,q,rfl,ho,hq,jy⟩
 .rfl
 .simp only[Fy,ho];rw[if_pos ⟨trivial,trivial,by rw[Aj,Lo hl];omega⟩,Ll,Aen m xs r hl]
def Ay1(a:List V)(k:Nat):∀ i∈Am (a.take k),i∈Am a:=by
 intro i hi;have:=K2 (a.take k) (a.drop k);rw[Li]at this;rw[this];exact Rj _ hi
def Ay2(a:List V)(k:Nat):∀ i∈Am (a.drop k),i∈Am a:=by
 intro i hi;have:=K2 (a.take k) (a.drop k);rw[Li]at this;rw[this];exact List.mem_append_right _ hi
def Acj{σ σ':St}{m e bytes:Nat}{u u' y:V}{ys:List (List V)}(ha:Ef bytes (m,e) u y σ=some (u',σ'))(hy:Fy σ m y=some ys)(hr:∀ r∈ys,r.all V.rowB=true)(hu:u=.nils\/∃ i g len,u=.sl i g 0 len m true):(∀ j∈u'.refs,j∈u.refs\/σ.length<=j)/\(Cl σ->Cl σ'):=by
 have hf:Am ys.flatten=[]:=K0 (Mn hr);unfold Ef at ha;simp only[hy,C7]at ha;unfold J5 at ha
 split at ha
 .rcases hu with rfl | ⟨i,g,len,rfl⟩
  .simp only at ha
   split at ha
   .split at ha
    .cases ha;exact⟨fun j hj=>.inl hj,id⟩
    .cases ha;refine⟨fun j hj=>.inr (by simp[V.refs]at hj;omega),fun hc=>R5 hc ?_⟩;simp[Ob.refs,hf]
   .cases ha
  .simp only at ha
   split at ha
   .split at ha
    .rename_i cs e' g' z ho;have hi:=(Aq.1 ho).1;have hm:=Hx ho
     split at ha
     .split at ha
      .cases ha;exact⟨fun j hj=>.inl hj,id⟩
      .split at ha
       .split at ha
        .cases ha;refine⟨fun j hj=>.inl hj,fun hc=>Hl hc fun j hj=>?_⟩;simp only[Ob.refs,K2,hf,Cy,Cr]at hj;rcases hj with hj | hj
         .exact hc _ hm j (Ay1 _ _ _ hj)
         .exact hc _ hm j (Ay2 _ _ _ hj)
        .split at ha
         .cases ha;refine⟨fun j hj=>.inl hj,fun hc=>Hl hc fun j hj=>?_⟩;simp only[Ob.refs,K2,hf,Cy]at hj;exact hc _ hm j hj
         .cases ha
       .cases ha
     .cases ha
    .cases ha
   .cases ha
 .cases ha
def Afk{σ:St}{m e lo:Nat}{u:V}{xs:List (List V)}(h:GW σ m e lo u xs):u=.nils\/∃ i g len,u=.sl i g 0 len m true:=by
 rcases h with⟨rfl,-⟩ | ⟨hn,i,g,rfl,-⟩
 .exact .inl rfl
 .exact .inr ⟨i,g,_,rfl⟩
def Qi{σ:St}{m e lo bytes:Nat}{u y:V}{xs ys:List (List V)}(h:GW σ m e lo u xs)(qA:lo<=σ.length)(hy:Fy σ m y=some ys)(hm:0<m)(hl:∀ r∈xs,r.length=m)(jc:∀ r∈ys,r.length=m)(hr:∀ r∈ys,r.all V.rowB=true)(hb:(xs.length+ys.length)*bytes<=140737488355328):
  ∃ u' σ',Ef bytes (m,e) u y σ=some (u',σ')/\GW σ' m e lo u' (xs++ys)/\σ.length<=σ'.length/\(∀ j,j<σ.length->j ∉ u.refs->σ'[j]?=σ[j]?)/\(∀ j∈u'.refs,j∈u.refs\/σ.length<=j)/\(Cl σ->Cl σ'):=by
 obtain⟨u',σ',h1,h2,h3,h4,-⟩:=Sa h qA hy hm hl jc hb;obtain⟨h5,h6⟩:=Acj h1 hy hr (Afk h);refine⟨u',σ',h1,h2,h3,fun j hj hn=>h4 j (fun i g hu e=>hn ?_) hj,h5,h6⟩;rw[hu,e];simp[V.refs]
def All{σ:St}{lo e:Nat}{u loc:V}{B:List Sp}(h:GW σ 11 e lo u (B.map Sp.row))(hb:loc.rowB=true)(nm:List UInt8)(ln:Int):
  ∃ σ',Ny 4 1 σ [.str nm,iV ln,loc,u]=some (.lst 1 [[.str nm,iV ln,loc,SL true 0 (B.map Sp.row)]],σ')/\σ'.length=σ.length/\(∀ j,j ∉ u.refs->σ'[j]?=σ[j]?)/\(Cl σ->Cl σ'):=by
 have hl:∀ r∈B.map Sp.row,r.length=11:=fun r hr=>by obtain⟨x,-,rfl⟩:=De.1 hr;exact Mo x
 have hs:∀ r∈B.map Sp.row,r.all V.rowB=true:=fun r hr=>by obtain⟨x,-,rfl⟩:=De.1 hr;exact Ga x
 have jf:=O6 h (by omega) hl hs;have hr:Am [V.str nm,iV ln,loc,u]=u.refs:=by simp[Am,V.refs,Wu hb]
 have jj:=jf (Fw σ 9 u.refs.eraseDups) (fun i hi=>Ui σ 9 _ i (Zh.2 hi)) 7;have hi:∀ v:V,v.rowB=true->Fk σ (Fw σ 9 u.refs.eraseDups) 9 v=some v:=fun v hv=>Rp hv
 unfold Ny;rw[hr];simp only[Ik,Zu,hi (.str nm) rfl,hi (iV ln) rfl,hi loc hb,jj];refine⟨_,rfl,Om _ _,fun j hj=>U9 _ _ _ fun hm=>?_,Vn _ _⟩;rcases h with⟨rfl,-⟩ | ⟨hn,i,g,rfl,ho,ql⟩
 .simp[V.refs,Fw]at hm
 .have:Fw σ 9 (V.refs (.sl i g 0 (B.map Sp.row).length 11 true)).eraseDups=[i]:=by
   have e1:(V.refs (.sl i g 0 (B.map Sp.row).length 11 true)).eraseDups=[i]:=by simp[V.refs,List.eraseDups_cons]
   rw[e1];have hx:Am (B.map Sp.row).flatten=[]:=K0 (Mn hs);simp[Fw,ho,Ob.refs,hx]
  rw[this]at hm;exact hj (by simpa[V.refs] using hm)
structure PW (s:St) (u2:V) (L:List Tp):Prop where
 hk:∃ uH,MKr s 2 1 uH []
 l5:5<=s.length
 z:s[0]?=some (.row [.nils,.nils] 28 0 0)
 d:s[3]?=some (.row (declsL.map Dp.row).flatten 64 0 0)
 p:s[4]?=some (.row [.sl 3 0 0 9 6 true,u2] 28 0 0)
 n0:0 ∉ fp s 2
 n3:3 ∉ fp s 2
 n4:4 ∉ fp s 2
 g:GW s 4 51 5 u2 (L.map Tp.row)
 gn:∀ j∈u2.refs,j ∉ fp s 2
def Ac1{s s':St}{u2 uH:V}{L:List Tp}(h:PW s u2 L)(hk:MKr s' 2 1 uH [])(w:FW 2 s s'):PW s' u2 L:=by
 obtain⟨z,n0⟩:=H1 w h.z h.n0;obtain⟨d,n3⟩:=H1 w h.d h.n3;obtain⟨p,n4⟩:=H1 w h.p h.n4;refine⟨⟨_,hk⟩,Cz h.l5 w.1,z,d,p,n0,n3,n4,Lz h.g fun i hi=>w.2.1 i (Dz h.g i hi).2 (h.gn i hi),fun j hj hm=>?_⟩;rcases w.2.2 j hm with h2 | h2
 .exact h.gn j hj h2
 .have:=(Dz h.g j hj).2;omega
def Ye{s:St}{u2:V}{L:List Tp}(h:PW s u2 L):∃ (th left:Int) (se tx ao lp:Bool) (uH:V),s[2]?=some (.row [.ptr 1 0 0,iV th,iV left,.bool se,.bool tx,.bool ao,.bool lp,uH] 71 0 0) /\
  ∀ (th left:Int) (se tx ao lp:Bool),PW (s.set 2 (.row [.ptr 1 0 0,iV th,iV left,.bool se,.bool tx,.bool ao,.bool lp,uH] 71 0 0)) u2 L:=by
 obtain⟨uH,hk⟩:=h.hk;obtain⟨th,left,se,tx,ao,lp,hr⟩:=hk.row;refine⟨th,left,se,tx,ao,lp,uH,hr,fun th left se tx ao lp=>?_⟩;obtain⟨h1,h2⟩:=Aq9 hk th left se tx ao lp;exact Ac1 h h1 h2
structure TH (s0 s:St) (nm:List UInt8) (u2:V) (L:List Tp) (uB:V) (B:List Sp):Prop where
 pw:PW s u2 L
 c5:5<=s0.length
 r:s[s0.length]?=some (.row [.str nm,iV 0,.lst 1 [[.str [97]],[.str [98]]],uB] 51 0 0)
 n:s0.length ∉ fp s 2
 g:GW s 11 78 (s0.length+1) uB (B.map Sp.row)
 gn:∀ j∈uB.refs,j ∉ fp s 2
 u2l:∀ j∈u2.refs,j<s0.length
def A7m{s:St}{u2:V}{L:List Tp}(h:PW s u2 L)(nm:List UInt8):TH s (s++[.row [.str nm,iV 0,.lst 1 [[.str [97]],[.str [98]]],.nils] 51 0 0]) nm u2 L .nils []:=by
 obtain⟨uH,hk⟩:=h.hk;obtain⟨h1,h2⟩:=Abu hk [.row [.str nm,iV 0,.lst 1 [[.str [97]],[.str [98]]],.nils] 51 0 0] (H5 hk.cl rfl);refine⟨Ac1 h h1 h2,h.l5,by simp,fun hm=>?_,Gk,by simp[V.refs],fun j hj=>(Dz h.g j hj).2⟩;rw[Gv h1,<-Gv hk]at hm;exact Acf (τ:=s) hk (Ai _) hm
def Ah4{s0 s s':St}{nm:List UInt8}{u2 uB uH:V}{L:List Tp}{B:List Sp}(h:TH s0 s nm u2 L uB B)(hk:MKr s' 2 1 uH [])(w:FW 2 s s'):TH s0 s' nm u2 L uB B:=by
 obtain⟨r,n⟩:=H1 w h.r h.n;refine⟨Ac1 h.pw hk w,h.c5,r,n,Lz h.g fun i hi=>w.2.1 i (Dz h.g i hi).2 (h.gn i hi),fun j hj hm=>?_,h.u2l⟩;rcases w.2.2 j hm with h2 | h2
 .exact h.gn j hj h2
 .have:=(Dz h.g j hj).2;omega
def Ar8{s0 s:St}{nm:List UInt8}{u2 uB:V}{L:List Tp}{B:List Sp}(h:TH s0 s nm u2 L uB B):s0.length<s.length:=(Aq.1 h.r).1
def R1(B:List Sp):∀ r∈B.map Sp.row,r.length=11:=fun r hr=>by obtain⟨x,-,rfl⟩:=De.1 hr;exact Mo x
def Afl(B:List Sp):∀ r∈B.map Sp.row,r.all V.rowB=true:=fun r hr=>by obtain⟨x,-,rfl⟩:=De.1 hr;exact Ga x
def Ahd{s0 s:St}{nm:List UInt8}{u2 uB y:V}{L:List Tp}{B C:List Sp}(h:TH s0 s nm u2 L uB B)(hy:Fy s 11 y=some (C.map Sp.row))(hb:B.length+C.length<=1000000):
  ∃ qg s',Ef 176 (11,78) uB y s=some (qg,s')/\(qg.cells=[qg]/\[qg].all V.cellB=true/\qg.cellB=true)/\s'[s0.length]?=some (.row [.str nm,iV 0,.lst 1 [[.str [97]],[.str [98]]],uB] 51 0 0)/\s'[2]?=s[2]? /\
   TH s0 (s'.set s0.length (.row [.str nm,iV 0,.lst 1 [[.str [97]],[.str [98]]],qg] 51 0 0)) nm u2 L qg (B++C):=by
 obtain⟨uH,hk⟩:=h.pw.hk;have hl:=Ar8 h;obtain⟨qg,s',e1,g,qj,hB,hr,hc⟩:=Qi (bytes:=176) h.g hl hy (by omega) (R1 B) (R1 C) (Afl C) (by rw[Ba,Ba];omega);have hf:=Gv hk
 have qr:∀ j∈fp s 2,j<s.length:=fun j hj=>by
  rw[hf]at hj;simp only[Bi]at hj;rcases hj with rfl | rfl | hj
  .exact Jh hk
  .exact Lb hk.tape
  .exact Cu hk.h j hj
 have kp:∀ j∈fp s 2,s'[j]?=s[j]?:=fun j hj=>hB j (qr j hj) fun e=>h.gn j e hj
 have k2:s'[2]?=s[2]?:=kp 2 (by rw[hf];simp);have qm:∀ j,j<=s0.length->s'[j]?=s[j]?:=fun j hj=>hB j (by omega) fun e=>by have:=(Dz h.g j e).1;omega
 have hn:=h.n;have c5:=h.c5;have qb:∀ j,j≠s0.length->(s'.set s0.length (.row [.str nm,iV 0,.lst 1 [[.str [97]],[.str [98]]],qg] 51 0 0))[j]?=s'[j]?:=fun j hj=>Bj (Ne.symm hj)
 have ks:∀ j∈fp s 2,(s'.set s0.length (.row [.str nm,iV 0,.lst 1 [[.str [97]],[.str [98]]],qg] 51 0 0))[j]?=s[j]?:=fun j hj=>(qb j fun(e:j=s0.length)=>hn (by rw[<-e];exact hj)).trans (kp j hj)
 have qh:fp (s'.set s0.length (.row [.str nm,iV 0,.lst 1 [[.str [97]],[.str [98]]],qg] 51 0 0)) 2=fp s 2:=by
  unfold fp;rw[ks 2 (by rw[hf];simp)]
 have qx:Cl (s'.set s0.length (.row [.str nm,iV 0,.lst 1 [[.str [97]],[.str [98]]],qg] 51 0 0)):=Hl (hc hk.cl) fun j hj=>by
  simp only[Ob.refs,Am,V.refs,Bf,Cy]at hj;exact(Dz g j hj).2
 have qu:∀ j∈u2.refs,j≠s0.length/\j ∉ uB.refs:=fun j hj=>by
  have:=h.u2l j hj;exact⟨by omega,fun e=>by have:=(Dz h.g j e).1;omega⟩
 have qk:TS (s'.set s0.length (.row [.str nm,iV 0,.lst 1 [[.str [97]],[.str [98]]],qg] 51 0 0)) 1:=by
  obtain⟨z,t,l,a,h1,h2⟩:=hk.tape;exact⟨z,t,l,a,by rw[ks 1 (by rw[hf];simp)];exact h1,h2⟩
 have qa:=h.pw;refine⟨qg,s',e1,⟨(H2 (Dq g)).1,(H2 (Dq g)).2,Dq g⟩,(qm _ (Ai _)).trans h.r,k2,⟨⟨uH,O4 hk qx (ks 2 (by rw[hf];simp)) qk fun i hi=>ks i (by rw[hf];simp[hi])⟩,by rw[Hy];have:=qa.l5;omega,?_,?_,?_,by rw[qh];exact qa.n0,by rw[qh];exact qa.n3,by rw[qh];exact qa.n4,?_,by rw[qh];exact qa.gn⟩,c5,Ci (by omega),by rw[qh];exact hn,?_,?_,h.u2l⟩
 .rw[qb 0 (by omega),qm 0 (by omega)];exact qa.z
 .rw[qb 3 (by omega),qm 3 (by omega)];exact qa.d
 .rw[qb 4 (by omega),qm 4 (by omega)];exact qa.p
 .exact Lz qa.g fun i hi=>by rw[qb i (qu i hi).1,hB i (Dz qa.g i hi).2 (qu i hi).2]
 .rw[Ei];exact Lz g fun i hi=>qb i (by have:=(Dz g i hi).1;omega)
 .intro j hj;rw[qh];rcases hr j hj with h3 | h3
  .exact h.gn j h3
  .exact fun e=>by have:=qr j e;omega
def A7n{s0 s:St}{nm:List UInt8}{u2 uB:V}{L:List Tp}{B:List Sp}(h:TH s0 s nm u2 L uB B)(hL:L.length<=1000000):
  ∃ s1 u' s2,Ny 4 1 s [.str nm,iV 0,.lst 1 [[.str [97]],[.str [98]]],uB]=some (.lst 1 [[.str nm,iV 0,.lst 1 [[.str [97]],[.str [98]]],SL true 0 (B.map Sp.row)]],s1) /\
   Ef 72 (4,51) u2 (.lst 1 [[.str nm,iV 0,.lst 1 [[.str [97]],[.str [98]]],SL true 0 (B.map Sp.row)]]) s1=some (u',s2)/\(u'.cells=[u']/\[u'].all V.cellB=true/\u'.cellB=true)/\s2[4]?=some (.row [.sl 3 0 0 9 6 true,u2] 28 0 0) /\
   PW (s2.set 4 (.row [.sl 3 0 0 9 6 true,u'] 28 0 0)) u' (L++[⟨nm,0,true,1,[[97],[98]],true,0,B⟩]):=by
 obtain⟨uH,hk⟩:=h.pw.hk;have hl:=Ar8 h;have c5:=h.c5;have qa:=h.pw;obtain⟨s1,e1,l1,f1,c1⟩:=All h.g (loc:=.lst 1 [[.str [97]],[.str [98]]]) rfl nm 0;have hx:Tp.row ⟨nm,0,true,1,[[97],[98]],true,0,B⟩=[.str nm,iV 0,.lst 1 [[.str [97]],[.str [98]]],SL true 0 (B.map Sp.row)]:=rfl
 have qu:∀ j∈u2.refs,j ∉ uB.refs:=fun j hj e=>by
  have:=h.u2l j hj;have:=(Dz h.g j e).1;omega
 have g1:GW s1 4 51 5 u2 (L.map Tp.row):=Lz qa.g fun i hi=>f1 i (qu i hi)
 obtain⟨u',s2,e2,g2,qj,hB,hr,hc⟩:=Qi (bytes:=72) (y:=.lst 1 [Tp.row ⟨nm,0,true,1,[[97],[98]],true,0,B⟩]) (ys:=[Tp.row ⟨nm,0,true,1,[[97],[98]],true,0,B⟩]) g1 (by rw[l1];exact qa.l5) rfl (by omega) (Rv L) (by simp;rfl) (fun r hr=>by rw[E0.1 hr,hx];simp only[As,Bd,Jt];rfl) (by simp;omega);have hf:=Gv hk
 have qr:∀ j∈fp s 2,j<s.length:=fun j hj=>by
  rw[hf]at hj;simp only[Bi]at hj;rcases hj with rfl | rfl | hj
  .exact Jh hk
  .exact Lb hk.tape
  .exact Cu hk.h j hj
 have k0:∀ j,j<s.length->j ∉ uB.refs->j ∉ u2.refs->s2[j]?=s[j]?:=fun j hj h1 h2=>by rw[hB j (by omega) h2,f1 j h1]
 have kp:∀ j∈fp s 2,s2[j]?=s[j]?:=fun j hj=>k0 j (qr j hj) (fun e=>h.gn j e hj) fun e=>qa.gn j e hj
 have qm:∀ j,j<5->s2[j]?=s[j]?:=fun j hj=>k0 j (by omega) (fun e=>by have:=(Dz h.g j e).1;omega) fun e=>by have:=(Dz qa.g j e).1;omega
 have qb:∀ j,j≠4->(s2.set 4 (.row [.sl 3 0 0 9 6 true,u'] 28 0 0))[j]?=s2[j]?:=fun j hj=>Bj (Ne.symm hj)
 have ks:∀ j∈fp s 2,(s2.set 4 (.row [.sl 3 0 0 9 6 true,u'] 28 0 0))[j]?=s[j]?:=fun j hj=>(qb j fun(e:j=4)=>qa.n4 (by rw[<-e];exact hj)).trans (kp j hj)
 have qh:fp (s2.set 4 (.row [.sl 3 0 0 9 6 true,u'] 28 0 0)) 2=fp s 2:=by
  unfold fp;rw[ks 2 (by rw[hf];simp)]
 have h5:5<=s2.length:=by have:=qa.l5;omega
 have qx:Cl (s2.set 4 (.row [.sl 3 0 0 9 6 true,u'] 28 0 0)):=Hl (hc (c1 hk.cl)) fun j hj=>by
  simp only[Ob.refs,Am,V.refs,Cy,Cr,E0]at hj;rcases hj with rfl | hj
  .omega
  .exact(Dz g2 j hj).2
 have qk:TS (s2.set 4 (.row [.sl 3 0 0 9 6 true,u'] 28 0 0)) 1:=by
  obtain⟨z,t,l,a,h1,h2⟩:=hk.tape;exact⟨z,t,l,a,by rw[ks 1 (by rw[hf];simp)];exact h1,h2⟩
 refine⟨s1,u',s2,e1,by rw[hx]at e2;exact e2,⟨(H2 (Dq g2)).1,(H2 (Dq g2)).2,Dq g2⟩,(qm 4 (by omega)).trans qa.p,⟨⟨uH,O4 hk qx (ks 2 (by rw[hf];simp)) qk fun i hi=>ks i (by rw[hf];simp[hi])⟩,by rw[Hy];exact h5,?_,?_,Ci (by omega),by rw[qh];exact qa.n0,by rw[qh];exact qa.n3,by rw[qh];exact qa.n4,?_,?_⟩⟩
 .rw[qb 0 (by omega),qm 0 (by omega)];exact qa.z
 .rw[qb 3 (by omega),qm 3 (by omega)];exact qa.d
 .rw[Ei];exact Lz g2 fun i hi=>qb i (by have:=(Dz g2 i hi).1;omega)
 .intro j hj;rw[qh];rcases hr j hj with h3 | h3
  .exact qa.gn j h3
  .exact fun e=>by have:=qr j e;omega
structure OKp (p:Gp):Prop where
 sh:ShG p
 len:(Fe p).length<=10000000000
 siz:∀ t∈p.thrs,Sp.szs t.body<=1000000
 blk:C2 p.row<=1000000
 ln:LnG p
 few:p.thrs.length<=5
 nd:(p.thrs.map fun t=>t.nm).Nodup
def nml:List (List UInt8):=[[109,97,105,110],[116,49],[116,50],[116,51]]
def Ay3{L:List Tp}{i:Nat}{nm:List UInt8}{t:Tp}(h:(L.map fun t=>t.nm)=nml.take i)(hn:([[V.str [109,97,105,110]],[V.str [116,49]],[V.str [116,50]],[V.str [116,51]]]:List (List V))[i]?=some [V.str nm])(ht:t.nm=nm):((L++[t]).map fun t=>t.nm)=nml.take (i+1):=by
 have hn:(nml.map fun x=>[V.str x])[i]?=some [V.str nm]:=hn;rw[Av]at hn
 cases hi:nml[i]? with
 | none=>rw[hi]at hn;cases hn
 | some x=>
  rw[hi]at hn;simp at hn;rw[Ei,h,Mj,hi,hn,<-ht];rfl
def A7o{L:List Tp}{i:Nat}(h:(L.map fun t=>t.nm)=nml.take i):(L.map fun t=>t.nm).Nodup:=h ▸ List.Pairwise.sublist (List.take_sublist i nml) (by decide)
def Pp(t:Tp):Prop:=J9 t.nm/\t.locals=[[97],[98]]/\(∀ s∈t.body,SM 2 s)/\t.body.length<=10
def A7p{t:Tp}(h:Pp t):MT t:=by
 obtain⟨h1,h2,h3,h4⟩:=h;refine⟨h1,⟨?_,?_⟩,2,by omega,fun s hs=>(h3 s hs).1,by omega⟩
 .rw[h2];exact A3d (by kernel_rfl)
 .rw[h2];simp
def App:∀ {l:List Sp},(∀ s∈l,SM 2 s)->Cw (l.map Sp.row)<=l.length*2100
 | [],_=>by simp[Cw]
 | x::l,h=>by
  have h1:=(h x (by simp)).2;have h2:=App (l:=l) fun s hs=>h s (by simp[hs])
  have:BK 2=2100:=rfl;rw[Aw,Cw,Ah,E1];omega
def Anq:∀ {L:List Tp},(∀ t∈L,Pp t)->Cw (L.map Tp.row)<=L.length*30000
 | [],_=>by simp[Cw]
 | x::l,h=>by
  obtain⟨h1,h2,h3,h4⟩:=h x (by simp);have h5:=Anq (L:=l) fun s hs=>h s (by simp[hs])
  have h6:=App h3;have h7:=h1.2;have h8:Cw (x.locals.map fun s=>[V.str s])=4:=by rw[h2];rfl
  have h9:x.body.length*2100<=10*2100:=Fq _ h4;rw[Aw,Cw,Ah,E1,Yp];omega
def Apq:∀ {L:List Tp},(∀ t∈L,Pp t)->Me L<=L.length*1000
 | [],_=>by simp[Me]
 | x::l,h=>by
  obtain⟨h1,h2,h3,h4⟩:=h x (by simp);have h5:=Apq (L:=l) fun s hs=>h s (by simp[hs])
  have h6:=X7 (k:=2) (l:=x.body) fun s hs=>(h3 s hs).1
  have z2:ZB 2=21:=rfl;have h9:x.body.length*ZB 2<=10*ZB 2:=Fq _ h4;have:Me (x::l)=Sp.szs x.body+Me l:=by simp[Me]
  rw[this,Ah,E1];omega
def Apr{z1 z2:Bool}{t1 t2:Nat}{L:List Tp}(hL:∀ t∈L,Pp t)(h5:L.length<=5)(h0:L≠[])(je:(L.map fun t=>t.nm).Nodup):OKp ⟨z1,t1,declsL,z2,t2,L⟩/\Me L<=1000000:=by
 obtain⟨a,b,c⟩:=Bay (D:=declsL) (L:=L) ⟨Av8.1,by decide⟩ (fun t ht=>A7p (hL t ht)) h5 h0;have h1:=Anq hL;have h2:=Apq hL;have h3:L.length*30000<=5*30000:=Fq _ h5;have h4:L.length*1000<=5*1000:=Fq _ h5;have hd:Cw (declsL.map Dp.row)<=1000:=by decide +kernel
 refine⟨⟨⟨a.decls,a.nms,a.locs,a.thrs,a.some⟩,b,c,?_,⟨by simp only;decide,by simp only;omega,fun t ht=>?_⟩,h5,je⟩,by omega⟩
 .rw[Ah0];simp only;omega
 .rw[(hL t ht).2.1];simp
def A7q:MX 1 (Fo 1):=by
 refine⟨.num (by omega),?_,?_⟩
 .have:(Fo 1).txt.length=1:=by unfold Fo;rw[E9];rfl
  have e1:EB 1=54:=rfl;omega
 .unfold Fo;rw[F8];have x1:Mf 1=36:=rfl;simp[Cw];omega
def Ar9{f p:Nat}{res:List AR}{body:AC}{vs:List V}{R:Gp->Prop}(hT:TT f=some ⟨p,res,false,body,none⟩)(hl:vs.length=p)
  (h:W TT PT [.c body] (Da 0 vs) [] (Hd fun e' σ1=>∃ u1 u2 z1 t1 z2 t2 D L,Ch e' σ1 res=some (.agg [u1,u2])/\(OC σ1 u1 (SL z1 t1 (D.map Dp.row))/\u1.cellB=true)/\(OC σ1 u2 (SL z2 t2 (L.map Tp.row))/\u2.cellB=true)/\R ⟨z1,t1,D,z2,t2,L⟩)):∃ p:Gp,Fn TT PT f vs (.agg p.row)/\R p:=by
 obtain⟨e',σ1,hE,u1,u2,z1,t1,z2,t2,D,L,hr,⟨h1,c1⟩,⟨h2,c2⟩,hR⟩:=h;refine⟨⟨z1,t1,D,z2,t2,L⟩,?_,hR⟩;have jg:OV σ1 (.agg [u1,u2]) (.agg [SL z1 t1 (D.map Dp.row),SL z2 t2 (L.map Tp.row)]):=X3 (.cons h1 (.cons h2 .nil));have qe:Ds (.agg [SL z1 t1 (D.map Dp.row),SL z2 t2 (L.map Tp.row)])=true:=by simp only[Ds,As,Bd,R7];rfl
 refine Ak5 hT rfl rfl hl ⟨e',σ1,hE,.agg [u1,u2],Am [u1,u2],hr,?_,jg _ (fun i hi=>hi),?_,?_⟩
 .show([u1,u2].all V.cellB)=true;simp only[As,Bd,c1,c2];rfl
 .exact Ua qe
 .exact Wm qe
def Ard{s:St}(h:s[3]?=some (.row (declsL.map Dp.row).flatten 64 0 0)):OC s (.sl 3 0 0 9 6 true) (SL true 0 (declsL.map Dp.row))/\(V.sl 3 0 0 9 6 true).cellB=true:=
 ⟨Vd (xs:=declsL.map Dp.row) h (by omega) (Aai declsL) (Aer declsL),rfl⟩
set_option maxRecDepth 20000 in
set_option maxHeartbeats 16000000 in
def Anr(z:Bool)(t:Nat)(l:List UInt8)(hl:l.length<=9223372036854775807):∃ p:Gp,Fn TT PT 11 [SL z t (Be l)] (.agg p.row)/\OKp p:=by
 refine Ar9 T11 rfl ?_;refine Hk (fun e s=>e=[(0,SL z t (Be l)),(2,.ptr 0 0 0)]/\s=[.row [.nils,.nils] 28 0 0]) ?_ ?_
 .intro k' qc;simp only[go_sem];exact qc _ _ ⟨rfl,rfl⟩
 rintro _ _ ⟨rfl,rfl⟩;refine Hk (fun e s=>e=[(2,.ptr 0 0 0),(3,.ptr 2 0 0)]/\s=[.row [.nils,.nils] 28 0 0,.row [SL z t (Be l),iV 0] 69 0 0,.row [.ptr 1 0 0,iV 0,iV 20,.bool false,.bool false,.bool false,.bool false,.nils] 71 0 0]) ?_ ?_
 .intro k' qc;have hb:V.cellB (SL z t (Be l))=true:=Fd (R7 _ _ _);simp only[go_sem,hb];exact qc _ _ ⟨rfl,rfl⟩
 rintro _ _ ⟨rfl,rfl⟩;refine Hk (fun e s=>e=[(2,.ptr 0 0 0),(3,.ptr 2 0 0),(4,.ptr 4 0 0)]/\PW s .nils []) ?_ ?_
 .intro k' qc;simp only[go_sem];refine Nn (Akk _) ?_;simp only[go_sem]
  have qP:MKr [.row [.nils,.nils] 28 0 0,.row [SL z t (Be l),iV 0] 69 0 0,.row [.ptr 1 0 0,iV 0,iV 20,.bool false,.bool false,.bool false,.bool false,.nils] 71 0 0,.row (declsL.map Dp.row).flatten 64 0 0,.row [.sl 3 0 0 9 6 true,.nils] 28 0 0] 2 1 .nils []:=by
   refine⟨⟨0,20,false,false,false,false,rfl⟩,⟨z,t,l,0,rfl,A0 _,hl⟩,by decide,Yb,by simp[V.refs],?_⟩;intro ob hm j hj;simp only[Bi,Lk,or_false]at hm;rcases hm with rfl | rfl | rfl | rfl | rfl
   .simp[Ob.refs,Am,V.refs]at hj
   .simp[Ob.refs,Am,V.refs,Mp]at hj
   .simp[Ob.refs,Am,V.refs]at hj;subst hj;simp
   .simp only[Ob.refs,Ad7]at hj;cases hj
   .simp[Ob.refs,Am,V.refs]at hj;subst hj;simp
  have hf:=Gv qP;exact qc _ _ ⟨rfl,⟨_,qP⟩,by simp,rfl,rfl,rfl,by rw[hf];simp[V.refs],by rw[hf];simp[V.refs],by rw[hf];simp[V.refs],Gk,by simp[V.refs]⟩
 rintro _ s ⟨rfl,pw⟩;refine Hk (fun e s=>∃ n:Nat,(2<=n/\n<=4)/\e=[(2,.ptr 0 0 0),(3,.ptr 2 0 0),(4,.ptr 4 0 0),(5,iV (n:Int))]/\PW s .nils []) ?_ ?_
 .intro k' qc;obtain⟨_,_,_,_,_,_,_,m1,-⟩:=Ye pw;obtain⟨uH,hk⟩:=pw.hk;obtain⟨r,s2,q2,h2,w2,l2,r2,m2⟩:=Ox hk 3 3 rfl (by omega);have en:IntKind.i64.wrap (2+(r:Int))=((2+r:Nat):Int):=by rw[Ec (by omega)];omega
  simp only[go_sem,m1];refine Ab q2 ?_;simp only[go_sem,en];exact qc _ _ ⟨2+r,by omega,rfl,Ac1 pw h2 w2⟩
 clear pw s;rintro _ s ⟨n,hn,rfl,pw⟩;refine Hk (fun e s=>e=[(2,.ptr 0 0 0),(3,.ptr 2 0 0),(4,.ptr 4 0 0),(5,iV (n:Int)),(6,.lst 1 [[.str [109,97,105,110]],[.str [116,49]],[.str [116,50]],[.str [116,51]]])]/\PW s .nils []) ?_ ?_
 .intro k' qc;simp only[go_sem];exact qc _ _ ⟨rfl,pw⟩
 clear pw s;rintro _ s ⟨rfl,pw⟩;refine Hk (fun e s=>(∃ i:Nat,e=[(2,.ptr 0 0 0),(3,.ptr 2 0 0),(4,.ptr 4 0 0),(5,iV (n:Int)),(6,.lst 1 [[.str [109,97,105,110]],[.str [116,49]],[.str [116,50]],[.str [116,51]]]),(7,iV (i:Int))])/\∃ u2 L,PW s u2 L/\(∀ t∈L,Pp t)/\L.length<=5/\L≠[]/\(L.map fun t=>t.nm).Nodup) ?_ ?_
 .intro k' qc;simp only[go_sem];refine B3 (α:=Nat × St × V × List Tp) (fun a=>n - a.1) (fun a=>[(2,.ptr 0 0 0),(3,.ptr 2 0 0),(4,.ptr 4 0 0),(5,iV (n:Int)),(6,.lst 1 [[.str [109,97,105,110]],[.str [116,49]],[.str [116,50]],[.str [116,51]]]),(7,iV (a.1:Int))]) (fun a=>a.2.1) (fun a=>a.1<=n/\PW a.2.1 a.2.2.1 a.2.2.2/\(∀ t∈a.2.2.2,Pp t)/\a.2.2.2.length=a.1/\(a.2.2.2.map fun t=>t.nm)=nml.take a.1) ?_ (0,s,.nils,[]) ⟨A0 _,pw,(fun d hd=>by cases hd),rfl,rfl⟩;clear pw s;rintro⟨i,s,u2,L⟩ ⟨hi,pw,hL,qp,qq⟩ ih;simp only at hi pw hL qp qq ih;refine B4 (by delta lp11_1;exact rfl) ?_;rcases Bu i n with h' | h';rotate_left
  .simp only[go_sem,Ck h'];exact qc _ _ ⟨⟨i,rfl⟩,u2,L,pw,hL,by omega,(fun e=>by rw[e]at qp;simp at qp;omega),A7o qq⟩
  obtain⟨nm,qD,qC⟩:=Xb [[109,97,105,110],[116,49],[116,50],[116,51]] (by kernel_rfl) (j:=i) (by simp;omega);simp only[Aw,B6]at qD;refine Hk (fun e s'=>e=[(2,.ptr 0 0 0),(3,.ptr 2 0 0),(4,.ptr 4 0 0),(5,iV (n:Int)),(6,.lst 1 [[.str [109,97,105,110]],[.str [116,49]],[.str [116,50]],[.str [116,51]]]),(7,iV (i:Int))]/\s'=s) ?_ ?_
  .intro k' qc;simp only[go_sem,Bx h'];exact qc _ _ ⟨rfl,rfl⟩
  rintro _ s' ⟨rfl,e0⟩;rw[e0];clear e0 s';refine Hk (fun e s'=>(e=[(2,.ptr 0 0 0),(3,.ptr 2 0 0),(4,.ptr 4 0 0),(5,iV (n:Int)),(6,.lst 1 [[.str [109,97,105,110]],[.str [116,49]],[.str [116,50]],[.str [116,51]]]),(7,iV (i:Int))]\/∃ v,e=[(2,.ptr 0 0 0),(3,.ptr 2 0 0),(4,.ptr 4 0 0),(5,iV (n:Int)),(6,.lst 1 [[.str [109,97,105,110]],[.str [116,49]],[.str [116,50]],[.str [116,51]]]),(7,iV (i:Int)),(9,v)])/\∃ u' t,PW s' u' (L++[t])/\Pp t/\t.nm=nm) ?_ ?_;rotate_left
  .clear pw qC;rintro e s ⟨he,u',t,pw,ht,jk⟩;have hN:=Ay3 qq qD jk;have qW:∀ x∈L++[t],Pp x:=fun x hx=>(Cr.1 hx).elim (hL x) fun hx=>by rw[E0.1 hx];exact ht
   rcases he with rfl | ⟨v,rfl⟩
   all_goals
    simp only[go_sem,Bk (show i<9223372036854775807 by omega)];exact Bg (ih (i+1,s,u',L++[t]) (by simp only;omega) ⟨h',pw,qW,by rw[Aj,Ih,qp],hN⟩) rfl
  clear ih qc k';intro k' qc;rw[Aru];refine Hk (fun e s'=>e=[(2,.ptr 0 0 0),(3,.ptr 2 0 0),(4,.ptr 4 0 0),(5,iV (n:Int)),(6,.lst 1 [[.str [109,97,105,110]],[.str [116,49]],[.str [116,50]],[.str [116,51]]]),(7,iV (i:Int))]/\PW s' u2 L) ?_ ?_
  .intro k2 qf;obtain⟨_,_,_,_,_,_,_,m1,ho⟩:=Ye pw;simp only[go_sem,m1];exact qf _ _ ⟨rfl,ho _ _ _ _ _ _⟩
  clear pw s;rintro _ s0 ⟨rfl,pw⟩;refine Hk (fun e s'=>e=[(2,.ptr 0 0 0),(3,.ptr 2 0 0),(4,.ptr 4 0 0),(5,iV (n:Int)),(6,.lst 1 [[.str [109,97,105,110]],[.str [116,49]],[.str [116,50]],[.str [116,51]]]),(7,iV (i:Int)),(8,.ptr s0.length 0 0)]/\TH s0 s' nm u2 L .nils []) ?_ ?_
  .intro k2 qf;simp only[go_sem,qD];exact qf _ _ ⟨rfl,A7m pw nm⟩
  clear pw;rintro _ s ⟨rfl,th⟩;refine Hk (fun e s'=>(e=[(2,.ptr 0 0 0),(3,.ptr 2 0 0),(4,.ptr 4 0 0),(5,iV (n:Int)),(6,.lst 1 [[.str [109,97,105,110]],[.str [116,49]],[.str [116,50]],[.str [116,51]]]),(7,iV (i:Int)),(8,.ptr s0.length 0 0)]\/∃ v,e=[(2,.ptr 0 0 0),(3,.ptr 2 0 0),(4,.ptr 4 0 0),(5,iV (n:Int)),(6,.lst 1 [[.str [109,97,105,110]],[.str [116,49]],[.str [116,50]],[.str [116,51]]]),(7,iV (i:Int)),(8,.ptr s0.length 0 0),(9,v)])/\∃ uB B,TH s0 s' nm u2 L uB B/\(∀ x∈B,SM 2 x)/\B.length<=3) ?_ ?_
  .intro k2 qf;by_cases qz:i=0;rotate_left
   .have f1:((i:Int)==0)=false:=by simp;omega
    simp only[go_sem,f1];exact qf _ _ ⟨.inl rfl,_,_,th,(fun x hx=>by cases hx),by simp⟩
   .have f1:((i:Int)==0)=true:=by simp[qz]
    simp only[go_sem,f1];refine B3 (α:=Nat × St × V × List Sp) (fun a=>n - a.1) (fun a=>[(2,.ptr 0 0 0),(3,.ptr 2 0 0),(4,.ptr 4 0 0),(5,iV (n:Int)),(6,.lst 1 [[.str [109,97,105,110]],[.str [116,49]],[.str [116,50]],[.str [116,51]]]),(7,iV (i:Int)),(8,.ptr s0.length 0 0),(9,iV (a.1:Int))]) (fun a=>a.2.1) (fun a=>(1<=a.1/\a.1<=n)/\TH s0 a.2.1 nm u2 L a.2.2.1 a.2.2.2/\(∀ x∈a.2.2.2,SM 2 x)/\a.2.2.2.length+1=a.1) ?_ (1,s,.nils,[]) ⟨by simp only;omega,th,(fun d hd=>by cases hd),rfl⟩;clear th s;rintro⟨j,s,uB,B⟩ ⟨hj,th,hB,qn⟩ ih;simp only at hj th hB qn ih;refine B4 (by delta lp11_0;exact rfl) ?_;rcases Bu j n with h3 | h3;rotate_left
    .simp only[go_sem,Ck h3];exact qf _ _ ⟨.inr ⟨_,rfl⟩,uB,B,th,hB,by omega⟩
    obtain⟨nj,qO,qB⟩:=Xb [[109,97,105,110],[116,49],[116,50],[116,51]] (by kernel_rfl) (j:=j) (by simp;omega);simp only[Aw,B6]at qO;obtain⟨u',s',ha,⟨c1,c2,c3⟩,r',-,th'⟩:=Ahd th (y:=.lst 1 [(Lg 12 nj).row]) (C:=[Lg 12 nj]) rfl (by simp;omega);rw[Va]at ha;have r1:=th.r;simp only[go_sem,Bx h3];refine Ag (by kernel_rfl) ?_;simp only[go_sem,r1,qO];refine Az ?_;simp only[go_sem,ha];refine Az ?_;simp only[go_sem,r',c1,c2,c3];refine Az ?_;simp only[go_sem,Bk (show j<9223372036854775807 by omega)];refine Bg (ih (j+1,_,u',B++[Lg 12 nj]) (by simp only;omega) ⟨by simp only;omega,th',fun x hx=>?_,by rw[Aj,Ih,qn]⟩) rfl;rcases Cr.1 hx with hx | hx
    .exact hB x hx
    .rw[E0.1 hx];exact Yr (by omega) qB
  clear th s;rintro e s ⟨he,uB,B,th,hB,qn⟩;refine Hk (fun e s'=>(e=[(2,.ptr 0 0 0),(3,.ptr 2 0 0),(4,.ptr 4 0 0),(5,iV (n:Int)),(6,.lst 1 [[.str [109,97,105,110]],[.str [116,49]],[.str [116,50]],[.str [116,51]]]),(7,iV (i:Int)),(8,.ptr s0.length 0 0)]\/∃ v,e=[(2,.ptr 0 0 0),(3,.ptr 2 0 0),(4,.ptr 4 0 0),(5,iV (n:Int)),(6,.lst 1 [[.str [109,97,105,110]],[.str [116,49]],[.str [116,50]],[.str [116,51]]]),(7,iV (i:Int)),(8,.ptr s0.length 0 0),(9,v)])/\∃ uB B,TH s0 s' nm u2 L uB B/\(∀ x∈B,SM 2 x)/\B.length<=8) ?_ ?_
  .intro k2 qf;obtain⟨_,_,_,_,_,_,_,m1,-⟩:=Ye th.pw;obtain⟨uH,hk⟩:=th.pw.hk;obtain⟨r,s2,q2,h2,w2,l2,rb,qR⟩:=Ox hk 3 3 rfl (by omega);have qo:=Ah4 th h2 w2;have er:IntKind.i64.wrap (1+(r:Int))=((1+r:Nat):Int):=by rw[Ec (by omega)];omega
   obtain⟨u,s3,q3,L3,jz,hO,qJ,qY,h3,w3⟩:=(Alk 2 (by omega) 2 (by omega)).2 s2 2 1 uH [] h2 (by simp) (1+r) (by omega);have qI:=Ah4 qo h3 w3;obtain⟨u',s',ha,⟨c1,c2,c3⟩,r',qQ,th'⟩:=Ahd qI (C:=L3) (A7l hO.1) (by omega);have m2:=qR.trans m1;obtain⟨_,_,_,_,_,_,_,m3,-⟩:=Ye qI.pw;have m4:=qQ.trans m3;have r1:=th.r;have r2:=qo.r;have r3:=qI.r;have q3:Bt TT PT 24 [.ptr 2 0 0,iV 2,iV ((1+r:Nat):Int)] s2 u s3:=q3;rcases he with rfl | ⟨v,rfl⟩
   all_goals
    refine Ag (by kernel_rfl) ?_;simp only[go_sem,r1,m1];refine Gy q2 ?_;simp only[go_sem,er];refine Gy q3 ?_;simp only[go_sem,ha];refine Az ?_;simp only[go_sem,r',c1,c2,c3];refine Az ?_;simp only[go_sem]
   .exact qf _ _ ⟨.inl rfl,_,_,th',fun x hx=>(Cr.1 hx).elim (hB x) (qJ x),by rw[Aj];omega⟩
   .exact qf _ _ ⟨.inr ⟨_,rfl⟩,_,_,th',fun x hx=>(Cr.1 hx).elim (hB x) (qJ x),by rw[Aj];omega⟩
  clear th hB qn he uB B s e;rintro e s ⟨he,uB,B,th,hB,qn⟩;refine Hk (fun e s'=>(e=[(2,.ptr 0 0 0),(3,.ptr 2 0 0),(4,.ptr 4 0 0),(5,iV (n:Int)),(6,.lst 1 [[.str [109,97,105,110]],[.str [116,49]],[.str [116,50]],[.str [116,51]]]),(7,iV (i:Int)),(8,.ptr s0.length 0 0)]\/∃ v,e=[(2,.ptr 0 0 0),(3,.ptr 2 0 0),(4,.ptr 4 0 0),(5,iV (n:Int)),(6,.lst 1 [[.str [109,97,105,110]],[.str [116,49]],[.str [116,50]],[.str [116,51]]]),(7,iV (i:Int)),(8,.ptr s0.length 0 0),(9,v)])/\∃ uB B,TH s0 s' nm u2 L uB B/\(∀ x∈B,SM 2 x)/\B.length<=9) ?_ ?_
  .intro k2 qf;by_cases qz:i=0;rotate_left
   .have f1:((i:Int)==0)=false:=by simp;omega
    rcases he with rfl | ⟨v,rfl⟩
    all_goals simp only[go_sem,f1]
    .exact qf _ _ ⟨.inl rfl,_,_,th,hB,by omega⟩
    .exact qf _ _ ⟨.inr ⟨_,rfl⟩,_,_,th,hB,by omega⟩
   have f1:((i:Int)==0)=true:=by simp[qz]
   obtain⟨_,_,_,_,_,_,_,m1,-⟩:=Ye th.pw;obtain⟨uH,hk⟩:=th.pw.hk;obtain⟨r,s2,q2,h2,w2,l2,rb,qR⟩:=Ox hk 3 3 rfl (by omega);have qo:=Ah4 th h2 w2;by_cases ji:r=2
   .subst ji;obtain⟨u',s',ha,⟨c1,c2,c3⟩,r',qQ,th'⟩:=Ahd qo (y:=.lst 1 [(Lg 13 [116,49]).row]) (C:=[Lg 13 [116,49]]) rfl (by simp;omega);rw[Va]at ha;have r2:=qo.r;rcases he with rfl | ⟨v,rfl⟩
    all_goals
     simp only[go_sem,f1,m1];refine Ab q2 ?_;simp only[go_sem,C1,Int.reduceBEq];refine Ag (by kernel_rfl) ?_;simp only[go_sem,r2];refine Az ?_;simp only[go_sem,ha];refine Az ?_;simp only[go_sem,r',c1,c2,c3];refine Az ?_;simp only[go_sem]
    .exact qf _ _ ⟨.inl rfl,_,_,th',fun x hx=>(Cr.1 hx).elim (hB x) fun hx=>by rw[E0.1 hx];exact Yr (by omega) (Gs (by kernel_rfl)),by rw[Aj,Ih];omega⟩
    .exact qf _ _ ⟨.inr ⟨_,rfl⟩,_,_,th',fun x hx=>(Cr.1 hx).elim (hB x) fun hx=>by rw[E0.1 hx];exact Yr (by omega) (Gs (by kernel_rfl)),by rw[Aj,Ih];omega⟩
   .have fr:((r:Int)==2)=false:=by simp;omega
    rcases he with rfl | ⟨v,rfl⟩
    all_goals
     simp only[go_sem,f1,m1];refine Ab q2 ?_;simp only[go_sem,fr]
    .exact qf _ _ ⟨.inl rfl,_,_,qo,hB,by omega⟩
    .exact qf _ _ ⟨.inr ⟨_,rfl⟩,_,_,qo,hB,by omega⟩
  clear th hB qn he uB B s e;rintro e s ⟨he,uB,B,th,hB,qn⟩;obtain⟨s1,u',s2,e1,e2,⟨c1,c2,c3⟩,p2,qS⟩:=A7n th (by omega);have r1:=th.r;have p1:=th.pw.p;have jm:V.cellB uB=true:=Dq th.g;rcases he with rfl | ⟨v,rfl⟩
  all_goals
   simp only[go_sem,r1,p1,jm,e1,e2,p2,c1,c2,c3]
  .exact qc _ _ ⟨.inl rfl,u',_,qS,⟨qC,rfl,hB,by simp only;omega⟩,rfl⟩
  .exact qc _ _ ⟨.inr ⟨_,rfl⟩,u',_,qS,⟨qC,rfl,hB,by simp only;omega⟩,rfl⟩
 clear pw s;rintro _ s ⟨⟨i,rfl⟩,u2,L,pw,hL,qp,qX,qq⟩;obtain⟨qE,qG⟩:=Apr (z1:=true) (t1:=0) (z2:=true) (t2:=0) hL qp qX qq;obtain⟨o1,c1⟩:=Ard pw.d;have o2:=O6 pw.g (by omega) (Rv L) (Aaj L);have c2:=Dq pw.g;obtain⟨_,q4,e4,l4,rfl⟩:=Ayy (Cz qE.blk (by omega)) qE.ln qG;have p1:=pw.p;have z1:=pw.z;have qd:Gp.row ⟨true,0,declsL,true,0,L⟩=[SL true 0 (declsL.map Dp.row),SL true 0 (L.map Tp.row)]:=rfl;rw[qd]at q4;simp only[go_sem,p1];refine Ary (.cons (X3 (.cons o1 (.cons o2 .nil))) .nil) q4 (by rfl) ?_;by_cases h0:e4=0
 .have f1:(e4==0)=true:=by simp[h0]
  simp only[go_sem,bne,f1,Ar,p1,z1,c1,c2];have z5:(s.set 0 (.row [.sl 3 0 0 9 6 true,u2] 28 0 0))[0]?=some (.row [.sl 3 0 0 9 6 true,u2] 28 0 0):=Ci (by have:=pw.l5;omega);refine⟨_,_,true,0,true,0,declsL,L,Sw z5 rfl rfl,Ard (by rw[Bj (by omega)];exact pw.d),⟨?_,c2⟩,qE⟩;exact O6 (Lz pw.g fun j hj=>Bj fun e=>by have:=(Dz pw.g j hj).1;omega) (by omega) (Rv L) (Aaj L)
 .have f1:(e4==0)=false:=by simp[h0]
  have qT:=Tv [120] (Fo 1);simp only[Fo,SL,B6,and_self,true_and,if_true]at qT;have jx:=pw.l5;simp only[go_sem,bne,f1,Ax];refine Nn (Akk _) ?_;simp only[go_sem];refine Ad (Adc _) (by rfl) ?_;simp only[go_sem];refine Ad qT (by rfl) ?_;have z6:=B5 (l:=([.row (declsL.map Dp.row).flatten 64 0 0]:St)) z1;simp only[go_sem,z6];have z5:((s++([.row (declsL.map Dp.row).flatten 64 0 0]:St)).set 0 (.row [.sl s.length 0 0 9 6 true,.lst 1 [[.str [109,97,105,110],iV 0,.lst 1 [[.str [97]],[.str [98]]],.lst 1 [[iV 1,iV 0,.str [120],.str [],.nils,iV 1,iV 1,.str [],.nils,.nils,.nils]]]]] 28 0 0))[0]?=some (.row [.sl s.length 0 0 9 6 true,.lst 1 [[.str [109,97,105,110],iV 0,.lst 1 [[.str [97]],[.str [98]]],.lst 1 [[iV 1,iV 0,.str [120],.str [],.nils,iV 1,iV 1,.str [],.nils,.nils,.nils]]]]] 28 0 0):=Ci (by simp);have hM:Pp ⟨[109,97,105,110],0,true,1,[[97],[98]],true,1,[Lf [120] (Fo 1)]⟩:=⟨Gs (by kernel_rfl),rfl,fun s hs=>by rw[E0.1 hs];exact Ah3 (Gs (by kernel_rfl)) A7q,by simp⟩;obtain⟨qF,-⟩:=Apr (z1:=true) (t1:=0) (z2:=true) (t2:=1) (L:=[⟨[109,97,105,110],0,true,1,[[97],[98]],true,1,[Lf [120] (Fo 1)]⟩]) (fun t ht=>by rw[E0.1 ht];exact hM) (by simp) (by simp) (by simp);refine⟨.sl s.length 0 0 9 6 true,.lst 1 [[.str [109,97,105,110],iV 0,.lst 1 [[.str [97]],[.str [98]]],.lst 1 [[iV 1,iV 0,.str [120],.str [],.nils,iV 1,iV 1,.str [],.nils,.nils,.nils]]]],true,0,true,1,declsL,[⟨[109,97,105,110],0,true,1,[[97],[98]],true,1,[Lf [120] (Fo 1)]⟩],Sw z5 rfl rfl,⟨?_,rfl⟩,⟨?_,rfl⟩,qF⟩
  .have h3:(s++([.row (declsL.map Dp.row).flatten 64 0 0]:St))[s.length]?=some (.row (declsL.map Dp.row).flatten 64 0 0):=by simp
   exact Vd (xs:=declsL.map Dp.row) (by rw[Bj (by omega)];exact h3) (by omega) (Aai declsL) (Aer declsL)
  .have hr:SL true 1 ([(⟨[109,97,105,110],0,true,1,[[97],[98]],true,1,[Lf [120] (Fo 1)]⟩:Tp)].map Tp.row)=.lst 1 [[.str [109,97,105,110],iV 0,.lst 1 [[.str [97]],[.str [98]]],.lst 1 [[iV 1,iV 0,.str [120],.str [],.nils,iV 1,iV 1,.str [],.nils,.nils,.nils]]]]:=by
    simp only[Aw,B6,Tp.row,Aci];rfl
   rw[hr];exact H3 rfl
def Gd(l:List UInt8):Nat:=l.count 10
def H8(a b:List UInt8):Gd (a++b)=Gd a+Gd b:=List.count_append
def Jb(c:UInt8)(l:List UInt8):Gd (c::l)=Gd l+if c=10 then 1 else 0:=by
 unfold Gd;rw[List.count_cons]
 by_cases h:c=10<;>simp[h]
def A3h{l:List UInt8}(h:∀ c∈l,c≠10):Gd l=0:=List.count_eq_zero.2 fun hm=>h 10 hm rfl
mutual
def Sp.lns:Sp->Nat
 | ⟨op,_,_,_,_,_,_,_,_,_,body,_,_,els⟩=>1+(if Bn op then 1+Sp.lnss body else 0)+(if els.isEmpty then 0 else 1+Sp.lnss els)
def Sp.lnss:List Sp->Nat
 | []=>0
 | x::l=>x.lns+Sp.lnss l
end
def A7r{l:List UInt8}{j:Nat}(h:Nc l j=true):l.getD j 0≠10:=fun e=>by
 unfold Nc at h;rw[e]at h
 cases j<;>simp[J7,M9]at h
def Ac2{l:List UInt8}(h:Bv l=true):Gd l=0:=by
 refine A3h fun c hc=>?_
 obtain⟨i,hi,rfl⟩:=Pq hc;unfold Bv at h;simp only[Af,Bh]at h;have:=A7r (h.2.2.2 i (En.2 hi))
 rwa [Au,A2 hi]at this
def Ahe:∀ (k u:Nat),Gd (Hb k u)=0
 | 0,_=>rfl
 | k+1,u=>by
  have hd:∀ n,n<10->Gd [UInt8.ofNat (48+n)]=0:=by decide
  unfold Hb
  split
  .exact hd u (by omega)
  .rw[H8,Ahe k,hd _ (by omega)]
def A3i(n:Int):Gd (Bw n)=0:=by
 unfold Bw
 split
 .rw[Jb,Ahe];decide
 .exact Ahe _ _
def Asa(op:Int):Gd (By op)=0:=by
 unfold By
 split<;>decide
def Ahf{o:Int × List UInt8}(h:Gd o.2=0)(v:Int):Gd (Dh o v)=0:=by
 unfold Dh
 split
 .rw[Jb,H8,h];decide
 .exact h
def Are{x:Xp}(h:ShE x):Gd x.txt=0:=by
 induction h with
 | num h=>
  rw[E9];simp only[Dr,if_pos];exact A3i _
 | name h=>
  rw[E9];simp only[Dr];exact Ac2 h
 | idx hn ha ih=>
  rw[E9];simp only[Dr,Aw,B6];simp only[Int.reduceEq,if_false,if_true];rw[H8,Jb,H8,Ac2 hn,ih];decide
 | @un op z t a ho ha ih=>
  rw[E9];simp only[Dr,Aw,B6];rw[if_neg (by omega),if_neg (by omega),if_neg (by omega),H8,Asa,Ahf ih]
 | @bin op z t a b ho ha hb iha ihb=>
  rw[E9];simp only[Dr,Aw,B6];rw[if_neg (by omega),if_neg (by omega),H8,Jb,H8,Jb,Asa,Ahf iha,Ahf ihb];decide
def Xv(op:Int):Gd (Cj op)=0:=by
 unfold Cj
 split<;>decide
def A3j{s:Sp}(h:ShS s):Gd (Cm s)=0:=by
 obtain⟨h1,h2,h3,h4,h5,h6,h7,h8,h9,jq,js,jt,ju,jv⟩:=h
 have hn:Gd s.nm=0:=by
  cases e:Ft s.op
  .exact Ac2 (h3 e)
  .rw[h2 e];rfl
 have ha:Gd s.arg=0:=by
  by_cases e:s.op=15
  .exact Ac2 (h4 e)
  .rw[h5 e];rfl
 have hx:Dy s.op=true->Gd s.ex.txt=0:=fun e=>Are (h9 e)
 have hi:Gd (E7 s.idx)=0:=by
  unfold E7
  split
  .rename_i a r e;rw[Jb,H8,Are (h8 a (by rw[e];simp))];decide
  .rfl
 unfold Cm
 split
 .rename_i e;rw[H8,H8,Jb,Jb,Jb,hn,hi,hx (by rw[e];rfl)];decide
 split
 .rename_i e;rw[H8,Jb,Xv,hx (by rcases e with e | e<;>rw[e]<;>rfl)];decide
 split
 .exact Xv _
 split
 .rename_i e;rw[H8,Jb,H8,Jb,Xv,hn,hx (by rw[e];rfl)];decide
 split
 .rw[H8,Jb,H8,Jb,Xv,hn,ha];decide
 .rw[H8,Jb,Xv,hn];decide
def ixU(c:UInt8):∀ (a r:List UInt8),c ∉ a->Lib.index (a++c::r) [c]=(a.length:Int)/\Lib.indexByte (a++c::r) c=(a.length:Int)
 | [],r,_=>by
  have hp:List.isPrefixOf [c] (c::r)=true:=by simp[List.isPrefixOf]
  constructor
  .rw[Bf];unfold Lib.index;rw[hp];rfl
  .rw[Bf,Lib.indexByte];simp
 | b::a,r,h=>by
  have hb:(c==b)=false:=by simp at h ⊢;exact h.1
  have qw:(b==c)=false:=by simp at h ⊢;exact fun e=>h.1 e.symm
  obtain⟨h1,h2⟩:=ixU c a r (by simp at h;exact h.2);have hp:List.isPrefixOf [c] (b::(a++c::r))=false:=by simp[List.isPrefixOf]at hb ⊢;exact hb
  have hn:((a.length:Int) == -1)=false:=by simp
  constructor
  .rw[Bq];unfold Lib.index;rw[hp,h1];simp only[Ez,if_false,hn,Ah];omega
  .rw[Bq,Lib.indexByte,h2];simp only[qw,Ez,if_false,hn,Ah];omega
def Bb8{c:UInt8}{a r:List UInt8}(h:c ∉ a):Lib.cut (a++c::r) [c]=(a,r,true):=by
 have hi:=(ixU c a r h).1;unfold Lib.cut;rw[hi,if_pos (by omega)];simp
def Ej(s:Sp):List UInt8:=Cm s++if Bn s.op then [32,123] else [59]
mutual
def Sp.hds:Sp->List (List UInt8)
 | ⟨op,line,nm,arg,iz,it,idx,ex,bz,bt,body,ez,et,els⟩=>Ej ⟨op,line,nm,arg,iz,it,idx,ex,bz,bt,body,ez,et,els⟩::(Sp.hdss body++Sp.hdss els)
def Sp.hdss:List Sp->List (List UInt8)
 | []=>[]
 | x::l=>x.hds++Sp.hdss l
end
def Arf(s:Sp):s.hds=Ej s::(Sp.hdss s.body++Sp.hdss s.els):=by
 cases s;rw[Sp.hds]
mutual
theorem A3k:∀ s:Sp,s.hds.length=s.sz
 | ⟨op,line,nm,arg,iz,it,idx,ex,bz,bt,body,ez,et,els⟩=>by
  rw[Arf,Lw];simp only[Ah,Aj];rw[K4 body,K4 els];omega
theorem K4:∀ l:List Sp,(Sp.hdss l).length=Sp.szs l
 | []=>rfl
 | x::l=>by rw[Sp.hdss,Sp.szs,Aj,A3k x,K4 l]
end
def Aps{s:Sp}(h:ShS s):(10:UInt8) ∉ Ej s:=by
 have h0:Gd (Ej s)=0:=by
  unfold Ej;rw[H8,A3j h]
  split<;>decide
 exact List.count_eq_zero.1 h0
def Aiz(s:Sp):∃ r,s.txt 0=Ej s++10::r:=by
 rw[K6];unfold Ej
 split
 .exact⟨Sp.txts (0+1) s.body++((if s.els.isEmpty then [] else D6 0++125::32::101::108::115::101::32::123::10::Sp.txts (0+1) s.els)++(D6 0++[125,10])),by simp[D6]⟩
 .exact⟨[],by simp[D6]⟩
def Hp(s:Sp):Sp:=⟨s.op,s.line,s.nm,s.arg,s.iz,s.it,s.idx,s.ex,true,0,[],true,0,[]⟩
def Awb(s:Sp):Ej (Hp s)=Ej s:=rfl
def A3l{s:Sp}(h:CnS s):CnS (Hp s):=by
 cases h with
 | mk h1 h2 h3 h4 h5 h6 h7 h8 h9=>exact .mk h1 h2 h3 h4 h5 (fun _=>rfl) (fun _=>rfl) (fun x hx=>by cases hx) (fun x hx=>by cases hx)
def Ay4(s:Sp):(∃ r,(Hp s).txt 0=Ej s++10::r)/\((Hp s).txt 0).length<=(Ej s).length+10:=by
 refine⟨Awb s ▸ Aiz (Hp s),?_⟩;rw[K6];unfold Ej;have:(Hp s).op=s.op:=rfl;have h2:Cm (Hp s)=Cm s:=rfl;rw[this,h2]
 split
 .simp[D6,Hp,Sp.txts]
 .simp[D6]
mutual
theorem Ay5:∀ (s:Sp) (d d':Nat),d<=d'->(s.txt d).length<=(s.txt d').length
 | ⟨op,line,nm,arg,iz,it,idx,ex,bz,bt,body,ez,et,els⟩,d,d',h=>by
  have h1:=Uc body (d+1) (d'+1) (by omega);have h2:=Uc els (d+1) (d'+1) (by omega);rw[K6,K6];simp only[Aj,Ja]
  split
  .cases els<;>simp[Ja]at h2 ⊢<;>omega
  .simp;omega
theorem Uc:∀ (l:List Sp) (d d':Nat),d<=d'->(Sp.txts d l).length<=(Sp.txts d' l).length
 | [],_,_,_=>by simp[Sp.txts]
 | x::l,d,d',h=>by
  have h1:=Ay5 x d d' h;have h2:=Uc l d d' h;rw[Ml,Ml,Aj,Aj];omega
end
def Apt(s:Sp):(Ej s).length+1<=(s.txt 0).length:=by
 obtain⟨r,hr⟩:=Aiz s;rw[hr];simp
def A3m{s:Sp}(h:Bn s.op=true):(Ej s).length+(Sp.txts 0 s.body).length+(Sp.txts 0 s.els).length<=(s.txt 0).length:=by
 have h1:=Uc s.body 0 1 (by omega);have h2:=Uc s.els 0 1 (by omega);rw[K6,if_pos h];unfold Ej;rw[if_pos h]
 cases he:s.els with
 | nil=>rw[he]at h2;simp[D6,Sp.txts]at h2 ⊢;omega
 | cons a l=>rw[he]at h2;simp[D6]at h2 ⊢;omega
def Ans(X:List (List UInt8)):∀ r∈X.map fun x=>[V.str x],r.length=1:=fun r hr=>by obtain⟨x,-,rfl⟩:=De.1 hr;rfl
def Ant(X:List (List UInt8)):∀ r∈X.map fun x=>[V.str x],r.all V.rowB=true:=fun r hr=>by obtain⟨x,-,rfl⟩:=De.1 hr;rfl
structure GL (lo:Nat) (σ τ:St) (u v:V) (X:List (List UInt8)):Prop where
 len:σ.length<=τ.length
 g:GW τ 1 9 lo v (X.map fun x=>[V.str x])
 kp:∀ j,j<σ.length->j ∉ u.refs->τ[j]?=σ[j]?
 rf:∀ j∈v.refs,j∈u.refs\/σ.length<=j
 cl:Cl τ
def Apu{lo:Nat}{σ:St}{u:V}{X:List (List UInt8)}(h:GW σ 1 9 lo u (X.map fun x=>[V.str x]))(hc:Cl σ):GL lo σ σ u u X:=⟨Ai _,h,fun _ _ _=>rfl,fun _ hj=>.inl hj,hc⟩
def Xe{lo:Nat}{σ τ υ:St}{u v w:V}{X Y:List (List UInt8)}(h:GL lo σ τ u v X)(h':GL lo τ υ v w Y):GL lo σ υ u w Y:=by
 refine⟨Cz h.len h'.len,h'.g,fun j hj hn=>?_,fun j hj=>?_,h'.cl⟩
 .rw[h'.kp j (by have:=h.len;omega) fun e=>?_,h.kp j hj hn];rcases h.rf j e with h2 | h2
  .exact hn h2
  .omega
 .rcases h'.rf j hj with h2 | h2
  .exact h.rf j h2
  .exact .inr (by have:=h.len;omega)
def Apv{lo:Nat}{σ τ:St}{u v:V}{X:List (List UInt8)}(h:GL lo σ τ u v X)(l:St)(hc:Cl (τ++l)):GL lo σ (τ++l) u v X:=
 ⟨by rw[Aj];have:=h.len;omega,P8 h.g,fun j hj hn=>by rw[Ca (by have:=h.len;omega)];exact h.kp j hj hn,h.rf,hc⟩
def Arg{lo:Nat}{σ τ:St}{u v:V}{X:List (List UInt8)}(h:GL lo σ τ u v X)(ql:lo<=σ.length)(s:List UInt8)(hb:X.length<=1000000000):∃ v' τ',Ef 16 (1,9) v (.lst 1 [[.str s]]) τ=some (v',τ')/\v'.cellB=true/\GL lo σ τ' u v' (X++[s])/\∀ j,j<τ.length->j ∉ v.refs->τ'[j]?=τ[j]?:=by
 obtain⟨v',τ',h1,h2,h3,h4,h5,h6⟩:=Qi (bytes:=16) (y:=.lst 1 [[.str s]]) (ys:=[[.str s]]) h.g (by have:=h.len;omega) rfl (by omega) (Ans X) (by simp) (by simp[V.rowB]) (by rw[Ba];simp;omega);refine⟨v',τ',h1,Dq h2,Xe h ⟨h3,by rw[Ei];exact h2,h4,h5,h6 h.cl⟩,h4⟩
def Mg(f:Nat)(l:List Sp):Prop:=∀ (lo:Nat) (σ:St) (u:V) (X:List (List UInt8)) (z:Bool) (t:Nat),GW σ 1 9 lo u (X.map fun x=>[V.str x])->lo<=σ.length->Cl σ->X.length+Sp.szs l<=1000000000 ->
  ∃ v τ,Bt TT PT f [u,SL z t (l.map Sp.row)] σ v τ/\GL lo σ τ u v (X++Sp.hdss l)
structure TxL (l:List Sp):Prop where
 sh:∀ x∈l,ShS x
 len:(Sp.txts 0 l).length<=2000000000
def Agg{l:List Sp}(h:TxL l){x:Sp}(hx:x∈l):ShS x/\(x.txt 0).length<=2000000000/\TxL x.body/\TxL x.els:=by
 have h1:=h.sh x hx;have h2:=Wx 0 hx;have h3:=h.len;refine⟨h1,by omega,?_⟩
 cases h1 with
 | mk a1 a2 a3 a4 a5 a6 a7 a8 a9 a10 a11 a12 a13 a14=>
  cases hb:Bn x.op
  .have e1:x.body=[]:=a11 hb;have e2:x.els=[]:=a12 fun e=>by rw[e]at hb;cases hb
   rw[e1,e2];exact⟨⟨(fun x hx=>by cases hx),by simp[Sp.txts]⟩,⟨(fun x hx=>by cases hx),by simp[Sp.txts]⟩⟩
  .have:=A3m hb;exact⟨⟨a13,by omega⟩,⟨a14,by omega⟩⟩
def Alm{l:List Sp}{i:Nat}{y:Sp}(h:l.drop i=y::l.drop (i+1)):Sp.hdss (l.drop i)=Ej y::(Sp.hdss y.body++(Sp.hdss y.els++Sp.hdss (l.drop (i+1)))):=by
 rw[h,Sp.hdss,Arf];simp
def Ay6(y:Sp):(Hp y).row=[iV y.op,iV y.line,.str y.nm,.str y.arg,SL y.iz y.it (y.idx.map Xp.row),iV y.ex.op,iV y.ex.n,.str y.ex.nm,SL y.ex.z y.ex.t (y.ex.l.map Xp.row),.nils,.nils]:=by
 rw[E4];rfl
def Ack:∀ l:List Sp,l.length<=Sp.szs l
 | []=>A0 _
 | x::l=>by
  have h1:=Ack l;have h2:=Lw x;rw[Ah,Sp.szs];omega
set_option maxHeartbeats 4000000 in
def Ay7{l:List Sp}(hl:TxL l)(ih:∀ x∈l,Mg 30 x.body/\Mg 30 x.els):Mg 30 l:=by
 intro lo σ u X z t hg ql hc hX;have qj:(l.map Sp.row).length=l.length:=Ba ..;refine Aa4 T30 rfl ?_;simp only[go_sem,qj];refine B3 (α:=Nat × St × V × List (List UInt8)) (fun a=>l.length - a.1) (fun a=>[(0,a.2.2.1),(9,SL z t (l.map Sp.row)),(10,iV (l.length:Int)),(11,iV (a.1:Int))]) (fun a=>a.2.1) (fun a=>a.1<=l.length/\GL lo σ a.2.1 u a.2.2.1 a.2.2.2/\a.2.2.2++Sp.hdss (l.drop a.1)=X++Sp.hdss l) ?_ (0,σ,u,X) ⟨A0 _,Apu hg hc,rfl⟩;rintro⟨i,s,v,Y⟩ ⟨hi,hG,hY⟩ jh;simp only at hi hG hY jh;have qv:=congrArg List.length hY;rw[Aj,Aj,K4,K4]at qv;have qi:=Dq hG.g;refine B4 (by delta lp30_0;exact rfl) ?_;rcases Bu i l.length with h' | h';rotate_left
 .rw[Ge h',Sp.hdss,Cy]at hY;subst hY;simp only[go_sem,Ck h'];exact⟨v,rfl,⟨by cases v<;>simp[V.cellB]at qi<;>rfl,fun j hj=>(Dz hG.g j hj).2⟩,⟨hG.len,hG.cl⟩,hG⟩
 obtain⟨y,hy,hd,hm⟩:=C3 h';obtain⟨qs,jl,qZ,qw⟩:=Agg hl hm;have jd:=Ack l;have qd:=E4 y;have qe:=Ga y;have hq:=Amq (Ag0 qs) 0 (by omega);obtain⟨r,hr⟩:=Aiz y;have qN:=(ixU 10 (Ej y) r (Aps qs)).2;rw[<-hr]at qN;have jb:=Apt y
 have jp:Rb [.str (y.txt 0),.int .u8 10]=some (iV ((Ej y).length:Int)):=by
  show some (iV (Lib.indexByte (y.txt 0) 10))=_;rw[qN]
 obtain⟨s1,e1⟩:∃ s1:St,s1=s++[.row y.row 78 0 0]:=⟨_,rfl⟩;have k1:s1[s.length]?=some (.row y.row 78 0 0):=by rw[e1];simp
 have G1:GL lo σ s1 u v Y:=by rw[e1];exact Apv hG _ (H5 hG.cl qe)
 have qt:∀ j∈v.refs,j<s.length:=fun j hj=>(Dz hG.g j hj).2
 have qy:=Alm hd;rw[qy]at hY;have qG:Sp.szs (l.drop i)=y.sz+Sp.szs (l.drop (i+1)):=by rw[hd,Sp.szs]
 have jn:=Lw y;obtain⟨v2,s2,ha,ja,G2,qH⟩:=Arg G1 ql (Ej y) (by omega);have k2:s2[s.length]?=_:=(qH s.length (by rw[e1];simp) fun e=>by have:=qt _ e;omega).trans k1
 have n2:s.length ∉ v2.refs:=fun e=>by
  have h9:∀ j∈v2.refs,j∈v.refs\/s1.length<=j:=by
   obtain⟨q1,-⟩:=Acj ha rfl (by simp[V.rowB]) (Afk G1.g);exact q1
  rcases h9 _ e with h8 | h8
  .have:=qt _ h8;omega
  .rw[e1]at h8;simp at h8;omega
 obtain⟨v3,s3,q3,G3⟩:=(ih y hm).1 lo s2 v2 (Y++[Ej y]) y.bz y.bt G2.g (by have:=G2.len;omega) G2.cl (by rw[Aj,Ih];omega);have l2:s.length<s2.length:=(Aq.1 k2).1;have k3:s3[s.length]?=_:=(G3.kp s.length l2 n2).trans k2
 have n3:s.length ∉ v3.refs:=fun e=>by
  rcases G3.rf _ e with h8 | h8
  .exact n2 h8
  .omega
 have l3:s.length<s3.length:=(Aq.1 k3).1;obtain⟨v4,s4,q4,G4⟩:=(ih y hm).2 lo s3 v3 (Y++[Ej y]++Sp.hdss y.body) y.ez y.et G3.g (by have:=G2.len;have:=G3.len;omega) G3.cl (by rw[Aj,Aj,Ih,K4];omega);have G14:=Xe G2 (Xe G3 G4);rw[qd]at e1 k1 k2 k3 hq qe;have f0:(0<=((Ej y).length:Int))=True:=eq_true (by omega);have qU:((Ej y).length<=(y.txt 0).length)=True:=eq_true (by omega);have qV:(y.txt 0).take (Ej y).length=Ej y:=by rw[hr];simp
 rw[Int.natCast_zero]at hq;simp only[go_sem,Bx h',Av,hy,qd];rw[<-e1];refine Ad hq (by simp only[go_sem]) ?_;simp only[go_sem];refine F0 P50 (by simp only[go_sem]) jp ?_;simp only[go_sem,ge_iff_le,f0,qU,qV,ha,k2];refine Ab q3 ?_;simp only[go_sem,k3];refine Ab q4 ?_;simp only[go_sem,Bk (show i<9223372036854775807 by omega)];refine Bg (jh (i+1,s4,v4,Y++[Ej y]++Sp.hdss y.body++Sp.hdss y.els) (by simp only;omega) ⟨h',G14,by rw[<-hY];simp⟩) rfl
set_option maxHeartbeats 4000000 in
def Ay8{l:List Sp}(hl:TxL l)(ih:∀ x∈l,Mg 28 x.body/\Mg 28 x.els):Mg 28 l:=by
 intro lo σ u X z t hg ql hc hX;have qj:(l.map Sp.row).length=l.length:=Ba ..;refine Aa4 T28 rfl ?_;simp only[go_sem,qj];refine B3 (α:=Nat × St × V × List (List UInt8)) (fun a=>l.length - a.1) (fun a=>[(0,a.2.2.1),(11,SL z t (l.map Sp.row)),(12,iV (l.length:Int)),(13,iV (a.1:Int))]) (fun a=>a.2.1) (fun a=>a.1<=l.length/\GL lo σ a.2.1 u a.2.2.1 a.2.2.2/\a.2.2.2++Sp.hdss (l.drop a.1)=X++Sp.hdss l) ?_ (0,σ,u,X) ⟨A0 _,Apu hg hc,rfl⟩;rintro⟨i,s,v,Y⟩ ⟨hi,hG,hY⟩ jh;simp only at hi hG hY jh;have qv:=congrArg List.length hY;rw[Aj,Aj,K4,K4]at qv;have qi:=Dq hG.g;refine B4 (by delta lp28_0;exact rfl) ?_;rcases Bu i l.length with h' | h';rotate_left
 .rw[Ge h',Sp.hdss,Cy]at hY;subst hY;simp only[go_sem,Ck h'];exact⟨v,rfl,⟨by cases v<;>simp[V.cellB]at qi<;>rfl,fun j hj=>(Dz hG.g j hj).2⟩,⟨hG.len,hG.cl⟩,hG⟩
 obtain⟨y,hy,hd,hm⟩:=C3 h';obtain⟨qs,jl,qZ,qw⟩:=Agg hl hm;have jd:=Ack l;have qd:=E4 y;have qe:=Ga y;have qK:=Ay6 y;have qL:=Ga (Hp y);obtain⟨⟨r,hr⟩,jw⟩:=Ay4 y;have jb:=Apt y;have hq:=Ayh (A3l (Ag0 qs)) 0 (by omega) (by rw[Lw];simp[Hp,Sp.szs]);have qM:=Bb8 (c:=10) (r:=r) (Aps qs);rw[<-hr]at qM
 have jo:Yu [.str ((Hp y).txt 0),.str [10]]=some (.tup [.str (Ej y),.str r,.bool true]):=by
  show(if((Hp y).txt 0).length<4294967281 then some (V.tup [.str (Lib.cut ((Hp y).txt 0) [10]).1,.str (Lib.cut ((Hp y).txt 0) [10]).2.1,.bool (Lib.cut ((Hp y).txt 0) [10]).2.2]) else none)=_;rw[if_pos (by omega),qM]
 have c1:Cl (s++[.row y.row 78 0 0,.row (Hp y).row 78 0 0]):=by
  have:=H5 (t:=78) (H5 (t:=78) hG.cl qe) qL;simpa using this
 obtain⟨s1,e1⟩:∃ s1:St,s1=s++[.row y.row 78 0 0,.row (Hp y).row 78 0 0]:=⟨_,rfl⟩;have k1:s1[s.length]?=some (.row y.row 78 0 0):=by rw[e1];simp
 have l1:s1.length=s.length+2:=by rw[e1];simp
 have G1:GL lo σ s1 u v Y:=by rw[e1];exact Apv hG _ c1
 have qt:∀ j∈v.refs,j<s.length:=fun j hj=>(Dz hG.g j hj).2
 have qy:=Alm hd;rw[qy]at hY;have qG:Sp.szs (l.drop i)=y.sz+Sp.szs (l.drop (i+1)):=by rw[hd,Sp.szs]
 have jn:=Lw y;obtain⟨v2,s2,ha,ja,G2,qH⟩:=Arg G1 ql (Ej y) (by omega);have k2:s2[s.length]?=_:=(qH s.length (by omega) fun e=>by have:=qt _ e;omega).trans k1
 have n2:s.length ∉ v2.refs:=fun e=>by
  have h9:∀ j∈v2.refs,j∈v.refs\/s1.length<=j:=by
   obtain⟨q1,-⟩:=Acj ha rfl (by simp[V.rowB]) (Afk G1.g);exact q1
  rcases h9 _ e with h8 | h8
  .have:=qt _ h8;omega
  .omega
 obtain⟨v3,s3,q3,G3⟩:=(ih y hm).1 lo s2 v2 (Y++[Ej y]) y.bz y.bt G2.g (by have:=G2.len;omega) G2.cl (by rw[Aj,Ih];omega);have l2:s.length<s2.length:=(Aq.1 k2).1;have k3:s3[s.length]?=_:=(G3.kp s.length l2 n2).trans k2;obtain⟨v4,s4,q4,G4⟩:=(ih y hm).2 lo s3 v3 (Y++[Ej y]++Sp.hdss y.body) y.ez y.et G3.g (by have:=G2.len;have:=G3.len;omega) G3.cl (by rw[Aj,Aj,Ih,K4];omega);have G14:=Xe G2 (Xe G3 G4);rw[qd,qK]at e1;rw[qd]at k1 k2 k3 qe;rw[qK]at hq qL;rw[Int.natCast_zero]at hq;simp only[go_sem,Bx h',Av,hy,qd];rw[<-e1];refine Ad hq (by simp only[go_sem]) ?_;simp only[go_sem];refine F0 P48 (by simp only[go_sem]) jo ?_;simp only[go_sem,ha,k2];refine Ab q3 ?_;simp only[go_sem,k3];refine Ab q4 ?_;simp only[go_sem,Bk (show i<9223372036854775807 by omega)];refine Bg (jh (i+1,s4,v4,Y++[Ej y]++Sp.hdss y.body++Sp.hdss y.els) (by simp only;omega) ⟨h',G14,by rw[<-hY];simp⟩) rfl
def Acl{f:Nat}(hs:∀ l,TxL l->(∀ x∈l,Mg f x.body/\Mg f x.els)->Mg f l):∀ (N:Nat) (l:List Sp),TxL l->Sp.szs l<=N->Mg f l
 | 0,l,h,hz=>hs l h fun x hx=>by
  have:=Xo hx;have:=Lw x;omega
 | N+1,l,h,hz=>hs l h fun x hx=>by
  obtain⟨-,-,h1,h2⟩:=Agg h hx;have:=Xo hx;have:=Lw x;exact⟨Acl hs N _ h1 (by omega),Acl hs N _ h2 (by omega)⟩
def A7s{l:List Sp}(h:TxL l):Mg 30 l:=Acl (fun _=>Ay7) _ l h (Ai _)
def A7t{l:List Sp}(h:TxL l):Mg 28 l:=Acl (fun _=>Ay8) _ l h (Ai _)
