/- Walks: the maker of programs: its lists. -/
import Derived.Test.YthlbbjcbmojocaaGreatDoorIe
set_option linter.all false
namespace Go.Proofs.YthlbbjcbmojocaaGreatDoor.KM
open Go
/-! settled objects -/
def Atx(o:Ob):o.shut.refs=o.refs:=by cases o<;>rfl
def Tv:∀ (js:List Nat) (σ:St) (j:Nat),j ∉ js->(σ.freeze js)[j]?=σ[j]?
 | [],_,_,_=>rfl
 | i::js,σ,j,h=>by
  simp only[Bj,not_or]at h;simp only[St.freeze]
  split
  .rw[Tv js _ j h.2,Bg (Ne.symm h.1)]
  .exact Tv js _ j h.2
def Uh:∀ (js:List Nat) (σ:St),Cl σ->Cl (σ.freeze js)
 | [],_,h=>h
 | i::js,σ,h=>by
  simp only[St.freeze]
  split
  .rename_i ob ho;refine Uh js _ (G5 h ?_);rw[Atx];exact h ob (Hu ho)
  .exact Uh js _ h
def Zt{R:V->St->Prop}{f p:Nat}{res:List AR}{thr:Bool}{body:AC}{vs:List V}{σ:St}(hT:TT f=some ⟨p,res,thr,body,none⟩)(hl:vs.length=p)(h:W TT PT [.c body] (C6 0 vs) σ (Hd fun e' σ1=>∃ v,Cd e' σ1 res=some v/\(Ch v=true/\∀ i∈v.refs,i<σ1.length)/\(σ.length<=σ1.length/\Cl σ1)/\R v σ1)):∃ v σ',Bt TT PT f vs σ v σ'/\R v σ':=by
 obtain⟨e',σ1,hE,v,hr,⟨h1,h2⟩,⟨h3,h4⟩,h5⟩:=h;exact⟨v,σ1,Amn hT hl ⟨e',σ1,hE,hr,rfl⟩ h2 h1 h3 h4,h5⟩
def Awn{R:V->St->Prop}{f p:Nat}{res:List AR}{body:AC}{vs:List V}{σ:St}(hT:TT f=some ⟨p,res,true,body,none⟩)(hl:vs.length=p)(h:W TT PT [.c body] (C6 0 vs) σ (Hd fun e' σ1=>∃ cs cs',Cd e' σ1 res=some (.agg cs)/\(cs.all V.cellB=true/\OCs σ1 cs cs'/\cs'.all V.rowB=true)/\(σ.length<=σ1.length/\Cl σ1)/\R (.agg cs') (σ1.freeze (Al cs)))):∃ v σ',Th TT PT f vs σ v σ'/\R v σ':=by
 obtain⟨e',σ1,hE,cs,cs',hr,⟨h1,h2,h3⟩,⟨h4,h5⟩,h6⟩:=h;have qP:Dg (.agg cs')=true:=h3;exact⟨.agg cs',σ1.freeze (Al cs),Ay7 hT hl ⟨e',σ1,hE,.agg cs,Al cs,hr,h1,Wx h2 _ (fun i hi=>hi),rfl⟩ (Sk qP) (Wf qP) (by rw[Nk];exact h4) (Uh _ _ h5),h6⟩
/-! statements that are made -/
def BK:Nat->Nat
 | 0=>100
 | k+1=>100+4*BK k
def SM(k:Nat)(x:Sp):Prop:=SB k x/\Cx x.row<=BK k
def Am9:∀ {k k':Nat},k<=k'->ZB k<=ZB k'
 | 0,0,_=>Ah _
 | 0,k'+1,_=>by simp[ZB]
 | k+1,k'+1,h=>by
  have:=Am9 (k:=k) (k':=k') (by omega);simp only[ZB];omega
def Aey:∀ {k k':Nat},k<=k'->BK k<=BK k'
 | 0,0,_=>Ah _
 | 0,k'+1,_=>by simp[BK]
 | k+1,k'+1,h=>by
  have:=Aey (k:=k) (k':=k') (by omega);simp only[BK];omega
def A0n{k k':Nat}{x:Sp}(hk:k<=k')(h:SM k x):SM k' x:=by
 obtain⟨⟨h1,h2,h3⟩,h4⟩:=h;have:=Am9 hk;have:=Aey hk;exact⟨⟨h1,by omega,fun d hd=>Cv (h3 d (by omega)) (Nat.mul_le_mul_left _ (by omega))⟩,by omega⟩
/-! the maker's locks -/
def Aoz{σ σ2:St}{m b:Nat}{uH vH:V}{H H':List (List UInt8)}(h:MKr σ m b uH H)(th left:Int)(se tx ao lp:Bool)(hl:σ.length<=σ2.length)(hB:∀ j,j<σ.length->j ∉ uH.refs->σ2[j]?=σ[j]?)(g:GS σ2 1 9 vH (H'.map fun x=>[V.str x]))(hr:∀ j∈vH.refs,j∈uH.refs\/σ.length<=j)(hc:Cl σ2):
  MKr (σ2.set m (.row [.ptr b 0 0,iV th,iV left,.bool se,.bool tx,.bool ao,.bool lp,vH] 61 0 0)) m b vH H'/\FW m σ (σ2.set m (.row [.ptr b 0 0,iV th,iV left,.bool se,.bool tx,.bool ao,.bool lp,vH] 61 0 0)):=by
 have hm:=Is h;have hb:=Jx h.tape;have hf:=Gf h;have qf:Al [.ptr b 0 0,iV th,iV left,.bool se,.bool tx,.bool ao,.bool lp,vH]=b::vH.refs:=by simp[Al,V.refs]
 have nv:∀ j∈vH.refs,j≠m/\j≠b:=fun j hj=>by
  rcases hr j hj with h2 | h2
  .exact h.hd j h2
  .omega
 have e2:σ2[m]?=σ[m]?:=hB m hm fun e=>(h.hd m e).1 rfl
 have e3:σ2[b]?=σ[b]?:=hB b hb fun e=>(h.hd b e).2 rfl
 refine⟨⟨⟨th,left,se,tx,ao,lp,Cc (by omega)⟩,?_,h.ne,Gm g fun i hi=>Bg (Ne.symm (nv i hi).1),nv,G5 hc fun i hi=>?_⟩,Afm (τ:=σ2) ⟨hl,fun j hj hn=>?_,fun j hj=>?_⟩ hm fun j hj=>?_⟩
 .obtain⟨z,t,l,a,h1,h2⟩:=h.tape;exact⟨z,t,l,a,by rw[Bg h.ne,e3];exact h1,h2⟩
 .simp only[Ob.refs,qf,Bj]at hi;rcases hi with rfl | hi
  .omega
  .exact Cp g i hi
 .rw[hf]at hn;simp only[Bj,not_or]at hn;exact hB j hj hn.2.2
 .unfold fp at hj ⊢;rw[e2]at hj;exact .inl hj
 .rw[qf]at hj;rw[hf];simp only[Bj]at hj ⊢;rcases hj with rfl | hj
  .exact .inl (.inr (.inl rfl))
  .rcases hr j hj with h2 | h2
   .exact .inl (.inr (.inr h2))
   .exact .inr h2
def OL(σ0 σ:St)(m:Nat)(u:V)(L:List Sp):Prop:=GS σ 11 68 u (L.map Sp.row)/\∀ j∈u.refs,σ0.length<=j/\j ∉ fp σ m
def Apz{σ0 σ τ:St}{m:Nat}{u:V}{L:List Sp}(h:OL σ0 σ m u L)(hw:FW m σ τ):OL σ0 τ m u L:=by
 obtain⟨h1,h2⟩:=h;refine⟨Gm h1 fun i hi=>hw.2.1 i (Cp h1 i hi) (h2 i hi).2,fun j hj=>⟨(h2 j hj).1,fun hm=>?_⟩⟩;have:=Cp h1 j hj;rcases hw.2.2 j hm with h3 | h3
 .exact(h2 j hj).2 h3
 .omega
def A4e{σ0 σ:St}{m b:Nat}{uH u:V}{H:List (List UInt8)}{L:List Sp}(h:OL σ0 σ m u L)(hk:MKr σ m b uH H)(h0:FW m σ0 σ)(qH:m<σ0.length)(x:Sp)(hb:L.length<=1000000):∃ u' σ',D5 176 (11,68) u (.lst 1 [x.row]) σ=some (u',σ')/\OL σ0 σ' m u' (L++[x])/\MKr σ' m b uH H/\FW m σ0 σ':=by
 obtain⟨h1,h2⟩:=h;have jZ:(L.map Sp.row).length=L.length:=Ba ..;obtain⟨u',σ',e1,g,hl,hB,hr,hc⟩:=Tf (bytes:=176) (row:=x.row) h1 (by omega) (Lr x) (F2 x) (by omega);have hf:=Gf hk
 have nf:∀ i∈fp σ m,i<σ.length/\i ∉ u.refs:=fun i hi=>by
  refine⟨?_,fun e=>(h2 i e).2 hi⟩;rw[hf]at hi;simp only[Bj]at hi;rcases hi with rfl | rfl | hi
  .exact Is hk
  .exact Jx hk.tape
  .exact Cp hk.h i hi
 have kp:∀ i∈fp σ m,σ'[i]?=σ[i]?:=fun i hi=>hB i (nf i hi).1 (nf i hi).2
 have hm:σ'[m]?=σ[m]?:=kp m (by rw[hf];simp);have qW:σ'[b]?=σ[b]?:=kp b (by rw[hf];simp);have qS:fp σ' m=fp σ m:=by unfold fp;rw[hm]
 refine⟨u',σ',e1,⟨by rw[Ef];exact g,fun j hj=>?_⟩,N2 hk (hc hk.cl) hm ?_ (fun i hi=>kp i (by rw[hf];simp[hi])),Aot h0 qH hl (fun j hj=>.inr (h2 j hj).1) (fun j hj hn=>hB j hj hn) fun e=>(h2 m e).2 (by rw[hf];simp)⟩
 .rw[qS];rcases hr j hj with h3 | h3
  .exact h2 j h3
  .exact⟨by have:=h0.1;omega,fun e=>by have:=(nf j e).1;omega⟩
 .obtain⟨z,t,l,a,h1,h2⟩:=hk.tape;exact⟨z,t,l,a,by rw[qW];exact h1,h2⟩
def MSt(k:Nat):Prop:=∀ (σ:St) (m b:Nat) (uH:V) (H:List (List UInt8)),MKr σ m b uH H->H.length+k<=100->∃ v σ',Th TT PT 37 [.ptr m 0 0,iV (k:Int)] σ v σ'/\(∃ x:Sp,v=.agg x.row/\SM k x)/\(∃ ql,MKr σ' m b ql H)/\FW m σ σ'
def Xz(k:Nat):Prop:=∀ (σ:St) (m b:Nat) (uH:V) (H:List (List UInt8)),MKr σ m b uH H->H.length+k<=100->∀ n:Nat,n<=1000000->∃ v σ',Bt TT PT 23 [.ptr m 0 0,iV (k:Int),iV (n:Int)] σ v σ'/\∃ (L:List Sp) (ql:V),OL σ σ' m v L/\(∀ x∈L,SM k x)/\L.length<=n/\MKr σ' m b ql H/\FW m σ σ'
def Ajq{k:Nat}(hS:MSt k):Xz k:=by
 intro σ m b uH H h hH n hn;have qH:=Is h;refine Zt T23 rfl ?_;simp only[go_sem];refine Bv (α:=Nat × St × V × V × List Sp) (fun a=>n - a.1) (fun a=>[(0,.ptr m 0 0),(1,iV (k:Int)),(2,iV (n:Int)),(7,a.2.2.1),(8,iV (a.1:Int))]) (fun a=>a.2.1) (fun a=>a.1<=n/\(OL σ a.2.1 m a.2.2.1 a.2.2.2.2/\(∀ x∈a.2.2.2.2,SM k x)/\a.2.2.2.2.length=a.1)/\MKr a.2.1 m b a.2.2.2.1 H/\FW m σ a.2.1) ?_ (0,σ,.nils,uH,[]) ⟨Ay _,⟨⟨W4,by simp[V.refs]⟩,by simp,rfl⟩,h,Aaa _ _⟩;rintro⟨i,s,u,vH,L⟩ ⟨hi,⟨hO,hL,qi⟩,hk,hw⟩ ih;simp only at hi hO hL qi hk hw ih;obtain⟨_,left,_,_,_,_,m1⟩:=hk.row;have qM:=H2 hO.1;have ji:∃ v,some u=some v/\(Ch v=true/\∀ i∈v.refs,i<s.length)/\(σ.length<=s.length/\Cl s)/\∃ (L:List Sp) (ql:V),OL σ s m v L/\(∀ x∈L,SM k x)/\L.length<=n/\MKr s m b ql H/\FW m σ s:=⟨u,rfl,⟨by cases u<;>simp[V.cellB]at qM<;>rfl,Cp hO.1⟩,⟨hw.1,hk.cl⟩,L,vH,hO,hL,by omega,hk,hw⟩;refine Bw (by delta lp23_0;exact rfl) ?_;by_cases hc:i<n/\(i=0\/0<left)
 .have f1:((i:Int)<(n:Int))=True:=eq_true (by omega);obtain⟨_,s2,q2,⟨x,rfl,hx⟩,⟨jx,jM⟩,w2⟩:=hS s m b vH H hk hH;have jG:=Apz hO w2;obtain⟨u',s3,ha,jH,jN,w3⟩:=A4e jG jM (E0 hw w2) qH x (by omega);have jc:=F2 x;have jU:=Es x;rw[jU]at q2 jc ha;rcases(show i=0\/(i≠0/\0<left) by omega) with h0 | ⟨h0,hl⟩
  case' inl=>have f2:((i:Int)==0)=true:=by simp[h0]
  case' inr=>have f2:((i:Int)==0)=false:=by simp[h0]
  case' inr=>have f3:((0:Int)<left)=True:=eq_true hl
  case' inl=>simp only[go_sem,m1,f1,f2]
  case' inr=>simp only[go_sem,m1,f1,f2,f3,gt_iff_lt]
  all_goals
   refine Ca q2 ?_;simp only[go_sem,ha,Bf (show i<9223372036854775807 by omega)];refine Bd (ih (i+1,s3,u',jx,L++[x]) (by simp only;omega) ⟨by simp only;omega,⟨jH,fun y hy=>?_,by simp[qi]⟩,jN,w3⟩) rfl;rcases Cr.1 hy with hy | hy
   .exact hL y hy
   .rw[E4.1 hy];exact hx
 .by_cases h1:i<n
  .have f1:((i:Int)<(n:Int))=True:=eq_true (by omega);have f2:((i:Int)==0)=false:=by simp;omega
   have f3:((0:Int)<left)=False:=eq_false (by omega);simp only[go_sem,m1,f1,f2,f3,gt_iff_lt];exact ji
  .have f1:((i:Int)<(n:Int))=False:=eq_false (by omega);simp only[go_sem,m1,f1];exact ji
def Sf(nm:List UInt8)(x:Xp):Fn TT PT 25 [.str nm,.agg [iV x.op,iV x.n,.str x.nm,SL x.z x.t (x.l.map Xp.row)]] (.agg [iV 1,iV 0,.str nm,.str [],.nils,iV x.op,iV x.n,.str x.nm,SL x.z x.t (x.l.map Xp.row),.nils,.nils]):=by
 have jc:=Df x;rw[A0 x]at jc;refine Bn T25 rfl ?_;simp only[go_sem];exact E7 (by simp only[go_sem])
def Hi{v:V}(h:v.cellB=true):v.cells=[v]/\[v].all V.cellB=true:=⟨by cases v<;>simp[V.cellB]at h<;>rfl,by simp only[Av,Be,h];rfl⟩
def Awo{σ:St}{m b:Nat}{uH:V}{H:List (List UInt8)}(h:MKr σ m b uH H)(hH:H.length<=1000)(nm:List UInt8):∃ z:Bool,Th TT PT 61 [.ptr m 0 0,.str nm] σ (.bool z) σ:=by
 obtain⟨_,_,_,_,_,_,m1⟩:=h.row;obtain⟨z,hz⟩:=Agh h.h (by omega);have ha:=Tt z 0 H nm (by omega)
 suffices hh:∃ v,Th TT PT 61 [.ptr m 0 0,.str nm] σ v σ/\∃ z,v=.bool z by
  obtain⟨_,h1,z,rfl⟩:=hh;exact⟨z,h1⟩
 refine Aov T61 rfl ?_;simp only[go_sem,m1];refine Apo (.cons (Z3 hz (H2 h.h)) (.cons (I6 rfl) .nil)) ha (by rfl) ?_;simp only[go_sem];exact⟨_,rfl,⟨rfl,rfl⟩,⟨[],by simp⟩,_,rfl⟩
structure MW (σ s:St) (m b:Nat) (H:List (List UInt8)):Prop where
 hk:∃ uH,MKr s m b uH H
 fw:FW m σ s
 z:s[σ.length]?=some (.row [iV 0,iV 0,.str [],.str [],.nils,iV 0,iV 0,.str [],.nils,.nils,.nils] 68 0 0)
 n:σ.length ∉ fp s m
 m0:m<σ.length
def Ui{σ s:St}{m b:Nat}{H:List (List UInt8)}(h:MW σ s m b H):σ.length<s.length:=(Ap.1 h.z).1
def Tg{σ s s':St}{m b:Nat}{H:List (List UInt8)}{uH:V}(h:MW σ s m b H)(hk:MKr s' m b uH H)(w:FW m s s'):MW σ s' m b H:=by
 obtain⟨k,n⟩:=Hh w h.z h.n;exact⟨⟨_,hk⟩,E0 h.fw w,k,n,h.m0⟩
def H7{σ s:St}{m b:Nat}{H:List (List UInt8)}(h:MW σ s m b H):∃ (th left:Int) (se tx ao lp:Bool) (uH:V),s[m]?=some (.row [.ptr b 0 0,iV th,iV left,.bool se,.bool tx,.bool ao,.bool lp,uH] 61 0 0) /\
  ∀ (th left:Int) (se tx ao lp:Bool),MW σ (s.set m (.row [.ptr b 0 0,iV th,iV left,.bool se,.bool tx,.bool ao,.bool lp,uH] 61 0 0)) m b H/\FW m s (s.set m (.row [.ptr b 0 0,iV th,iV left,.bool se,.bool tx,.bool ao,.bool lp,uH] 61 0 0)):=by
 obtain⟨uH,hk⟩:=h.hk;obtain⟨th,left,se,tx,ao,lp,hr⟩:=hk.row;refine⟨th,left,se,tx,ao,lp,uH,hr,fun th left se tx ao lp=>?_⟩;obtain⟨h1,h2⟩:=Aoy hk th left se tx ao lp;exact⟨Tg h h1 h2,h2⟩
def Ti{σ s:St}{m b:Nat}{H:List (List UInt8)}(h:MW σ s m b H)(n:Nat)(hn:n<=1000000000:=by omega):∃ (r:Nat) (s':St),Bt TT PT 22 [.ptr b 0 0,iV (n:Int)] s (iV (r:Int)) s'/\(r<n\/r=0)/\MW σ s' m b H/\FW m s s'/\s'[m]?=s[m]?:=by
 obtain⟨uH,hk⟩:=h.hk;obtain⟨r,s',q,h1,h2,-,h4,h5⟩:=Nv hk n n rfl hn;exact⟨r,s',q,h4,Tg h h1 h2,h2,h5⟩
def Q2{σ s:St}{m b:Nat}{H:List (List UInt8)}(h:MW σ s m b H)(d:Nat)(hd:d<=5:=by omega):∃ (x:Xp) (s':St),Th TT PT 58 [.ptr m 0 0,iV (d:Int)] s (.agg [iV x.op,iV x.n,.str x.nm,SL x.z x.t (x.l.map Xp.row)]) s'/\MX d x/\MW σ s' m b H/\FW m s s'/\Dg (.agg [iV x.op,iV x.n,.str x.nm,SL x.z x.t (x.l.map Xp.row)])=true:=by
 obtain⟨uH,hk⟩:=h.hk;obtain⟨_,s',q,⟨x,rfl,hx⟩,h1,h2⟩:=Alm 5 (by omega) d hd s m b uH H hk;have hs:=Df x;rw[A0 x]at q hs;exact⟨x,s',q,hx,Tg h h1 h2,h2,hs⟩
def Sz{σ s:St}{m b:Nat}{H:List (List UInt8)}(h:MW σ s m b H)(hH:H.length<=1000)(nm:List UInt8):∃ z:Bool,Th TT PT 61 [.ptr m 0 0,.str nm] s (.bool z) s:=by
 obtain⟨uH,hk⟩:=h.hk;exact Awo hk hH nm
def Ol(σ s:St)(m:Nat)(u:V)(L:List Sp):Prop:=GS s 11 68 u (L.map Sp.row)/\∀ j∈u.refs,σ.length<j/\j ∉ fp s m
def N7{σ s s':St}{m:Nat}{u:V}{L:List Sp}(h:Ol σ s m u L)(hw:FW m s s'):Ol σ s' m u L:=by
 obtain⟨h1,h2⟩:=h;refine⟨Gm h1 fun i hi=>hw.2.1 i (Cp h1 i hi) (h2 i hi).2,fun j hj=>⟨(h2 j hj).1,fun hm=>?_⟩⟩;have:=Cp h1 j hj;rcases hw.2.2 j hm with h3 | h3
 .exact(h2 j hj).2 h3
 .omega
def Ao0{s:St}{m j:Nat}{X:Ob}(hj:j≠m):fp (s.set j X) m=fp s m:=by
 unfold fp;rw[Bg hj]
def Ao1{σ s:St}{m j:Nat}{u:V}{L:List Sp}(X:Ob)(h:Ol σ s m u L)(hj:j ∉ u.refs)(hm:j≠m):Ol σ (s.set j X) m u L:=by
 obtain⟨h1,h2⟩:=h;exact⟨Gm h1 fun i hi=>Bg fun(e:j=i)=>hj (by rw[e];exact hi),fun i hi=>⟨(h2 i hi).1,by rw[Ao0 hm];exact(h2 i hi).2⟩⟩
def V1{σ s:St}{m b k:Nat}{H:List (List UInt8)}(hS:Xz k)(h:MW σ s m b H)(hH:H.length+k<=100)(n:Nat)(hn:n<=1000000:=by omega):∃ (u:V) (L:List Sp) (s':St),Bt TT PT 23 [.ptr m 0 0,iV (k:Int),iV (n:Int)] s u s'/\Ol σ s' m u L/\(u.cells=[u]/\[u].all V.cellB=true/\u.cellB=true/\∀ j∈u.refs,s.length<=j)/\((∀ x∈L,SM k x)/\L.length<=n)/\MW σ s' m b H/\FW m s s':=by
 obtain⟨uH,hk⟩:=h.hk;obtain⟨u,s',q,L,ql,hO,hL,qi,h1,h2⟩:=hS s m b uH H hk hH n hn;have hc:=H2 hO.1;have hl:=Ui h;exact⟨u,L,s',q,⟨hO.1,fun j hj=>⟨by have:=(hO.2 j hj).1;omega,(hO.2 j hj).2⟩⟩,⟨(Hi hc).1,(Hi hc).2,hc,fun j hj=>(hO.2 j hj).1⟩,⟨hL,qi⟩,Tg h h1 h2,h2⟩
def MBl(k:Nat):Prop:=∀ (σ:St) (m b:Nat) (uH:V) (H:List (List UInt8)) (nm:List UInt8),MKr σ m b uH H->H.length+1+k<=100->∃ v σ',Bt TT PT 62 [.ptr m 0 0,.str nm,iV (k:Int)] σ v σ'/\∃ (L:List Sp) (ql:V),OL σ σ' m v L/\(∀ x∈L,SM k x)/\L.length<=2/\MKr σ' m b ql H/\FW m σ σ'
def Zu{σ s:St}{m b k:Nat}{H:List (List UInt8)}(hS:MBl k)(h:MW σ s m b H)(hH:H.length+1+k<=100)(nm:List UInt8):∃ (u:V) (L:List Sp) (s':St),Bt TT PT 62 [.ptr m 0 0,.str nm,iV (k:Int)] s u s'/\Ol σ s' m u L/\(u.cells=[u]/\[u].all V.cellB=true/\u.cellB=true/\∀ j∈u.refs,s.length<=j)/\((∀ x∈L,SM k x)/\L.length<=2)/\MW σ s' m b H/\FW m s s':=by
 obtain⟨uH,hk⟩:=h.hk;obtain⟨u,s',q,L,ql,hO,hL,qi,h1,h2⟩:=hS s m b uH H nm hk hH;have hc:=H2 hO.1;have hl:=Ui h;exact⟨u,L,s',q,⟨hO.1,fun j hj=>⟨by have:=(hO.2 j hj).1;omega,(hO.2 j hj).2⟩⟩,⟨(Hi hc).1,(Hi hc).2,hc,fun j hj=>(hO.2 j hj).1⟩,⟨hL,qi⟩,Tg h h1 h2,h2⟩
def Aah{σ s:St}{m b:Nat}{H:List (List UInt8)}(h:MW σ s m b H)(X:Ob)(hX:∀ i∈X.refs,i<s.length+1):MW σ (s++[X]) m b H/\FW m s (s++[X])/\s.length ∉ fp (s++[X]) m/\(s++[X])[s.length]?=some X/\s.length≠m:=by
 obtain⟨uH,hk⟩:=h.hk;obtain⟨h1,h2⟩:=Aag hk [X] (Qy hk.cl hX);have hm:=Is hk;refine⟨Tg h h1 h2,h2,fun hm=>?_,by simp,by omega⟩;rw[Gf h1,<-Gf hk]at hm;exact Aa0 (τ:=s) hk (Ah _) hm
def A4f{σ s:St}{m b j:Nat}{H:List (List UInt8)}(h:MW σ s m b H)(X:Ob)(hj:σ.length<j)(hn:j ∉ fp s m)(hX:∀ i∈X.refs,i<s.length):MW σ (s.set j X) m b H:=by
 obtain⟨uH,hk⟩:=h.hk;rw[Gf hk]at hn;simp only[Bj,not_or]at hn;refine⟨⟨uH,N2 hk (G5 hk.cl hX) (Bg hn.1) ?_ fun i hi=>Bg fun(e:j=i)=>hn.2.2 (by rw[e];exact hi)⟩,Aos h.fw (by omega) h.m0,by rw[Bg (by omega)];exact h.z,by rw[Ao0 hn.1];exact h.n,h.m0⟩;obtain⟨z,t,l,a,h1,h2⟩:=hk.tape;exact⟨z,t,l,a,by rw[Bg hn.2.1];exact h1,h2⟩
def A4g{σ s:St}{m b:Nat}{u:V}{H:List (List UInt8)}{L:List Sp}(h:Ol σ s m u L)(hk:MW σ s m b H)(x:Sp)(hb:L.length<=1000000):∃ u' s',D5 176 (11,68) u (.lst 1 [x.row]) s=some (u',s')/\Ol σ s' m u' (L++[x])/\(u'.cells=[u']/\[u'].all V.cellB=true/\u'.cellB=true)/\MW σ s' m b H:=by
 obtain⟨uH,qG⟩:=hk.hk;obtain⟨h1,h2⟩:=h;obtain⟨u',s',e1,g,hl,hB,hr,hc⟩:=Tf (bytes:=176) (row:=x.row) h1 (by omega) (Lr x) (F2 x) (by rw[Ba];omega);have hf:=Gf qG
 have nf:∀ i∈fp s m,i<s.length/\i ∉ u.refs:=fun i hi=>by
  refine⟨?_,fun e=>(h2 i e).2 hi⟩;rw[hf]at hi;simp only[Bj]at hi;rcases hi with rfl | rfl | hi
  .exact Is qG
  .exact Jx qG.tape
  .exact Cp qG.h i hi
 have kp:∀ i∈fp s m,s'[i]?=s[i]?:=fun i hi=>hB i (nf i hi).1 (nf i hi).2
 have hm:s'[m]?=s[m]?:=kp m (by rw[hf];simp);have qW:s'[b]?=s[b]?:=kp b (by rw[hf];simp);have qS:fp s' m=fp s m:=by unfold fp;rw[hm]
 refine⟨u',s',e1,⟨by rw[Ef];exact g,fun j hj=>?_⟩,⟨(Hi (H2 g)).1,(Hi (H2 g)).2,H2 g⟩,⟨uH,N2 qG (hc qG.cl) hm ?_ fun i hi=>kp i (by rw[hf];simp[hi])⟩,Aot hk.fw hk.m0 hl (fun j hj=>.inr (Mm (h2 j hj).1)) (fun j hj hn=>hB j hj hn) fun e=>(h2 m e).2 (by rw[hf];simp),by rw[hB _ (Ui hk) fun e=>by have:=(h2 _ e).1;omega];exact hk.z,by rw[qS];exact hk.n,hk.m0⟩
 .rw[qS];rcases hr j hj with h3 | h3
  .exact h2 j h3
  .exact⟨by have:=Ui hk;omega,fun e=>by have:=(nf j e).1;omega⟩
 .obtain⟨z,t,l,a,h1,h2⟩:=qG.tape;exact⟨z,t,l,a,by rw[qW];exact h1,h2⟩
def BSs(σ s:St)(m:Nat)(u:V)(L:List Sp):Prop:=(∃ z t,u=SL z t (L.map Sp.row))\/Ol σ s m u L
def Ap0{σ s:St}{m:Nat}{u:V}{L:List Sp}(h:BSs σ s m u L)(X:Ob):∃ z t,OC (s.set σ.length X) u (SL z t (L.map Sp.row))/\u.cellB=true/\(∀ j∈u.refs,σ.length<j/\j ∉ fp s m/\j<s.length):=by
 rcases h with⟨z,t,rfl⟩ | ⟨h1,h2⟩
 .refine⟨z,t,Hj ?_,?_,by rw[Lt];simp⟩
  .exact I5 z t _
  .unfold SL;split<;>rfl
 .have h3:GS (s.set σ.length X) 11 68 u (L.map Sp.row):=Gm h1 fun i hi=>Bg (by have:=(h2 i hi).1;omega)
  obtain⟨z,hz⟩:=Agh h3 (by omega);exact⟨z,0,hz,H2 h1,fun j hj=>⟨(h2 j hj).1,(h2 j hj).2,Cp h1 j hj⟩⟩
set_option maxHeartbeats 1000000 in
def Hl{σ s:St}{m b k:Nat}{H:List (List UInt8)}{e:Env}{uB uE:V}{cs:List V}{op line:Int}{nm arg:List UInt8}{iz:Bool}{it:Nat}{idx:List Xp}{ex:Xp}{LB LE:List Sp}(h:MW σ s m b H)(he:e.get 4=.ptr σ.length 0 0)(hB:BSs σ s m uB LB)(hE:BSs σ s m uE LE)
  (qT:cs=[iV op,iV line,.str nm,.str arg,SL iz it (idx.map Xp.row),iV ex.op,iV ex.n,.str ex.nm,SL ex.z ex.t (ex.l.map Xp.row),uB,uE]) (hS:∀ z t z' t',SM k ⟨op,line,nm,arg,iz,it,idx,ex,z,t,LB,z',t',LE⟩) :
  ∃ cs1 cs',Cd e (s.set σ.length (.row cs 68 0 0)) [.cell 4 11 false]=some (.agg cs1)/\(cs1.all V.cellB=true/\OCs (s.set σ.length (.row cs 68 0 0)) cs1 cs'/\cs'.all V.rowB=true)/\(σ.length<=(s.set σ.length (.row cs 68 0 0)).length/\Cl (s.set σ.length (.row cs 68 0 0))) /\
   ((∃ x:Sp,V.agg cs'=.agg x.row/\SM k x)/\(∃ ql,MKr (St.freeze (s.set σ.length (.row cs 68 0 0)) (Al cs1)) m b ql H)/\FW m σ (St.freeze (s.set σ.length (.row cs 68 0 0)) (Al cs1))):=by
 have hl:=Ui h;obtain⟨uH,hk⟩:=h.hk;obtain⟨z1,t1,o1,c1,r1⟩:=Ap0 hB (.row cs 68 0 0);obtain⟨z2,t2,o2,c2,r2⟩:=Ap0 hE (.row cs 68 0 0);have jp:V.rowB (SL iz it (idx.map Xp.row))=true:=I5 _ _ _;have jq:V.rowB (SL ex.z ex.t (ex.l.map Xp.row))=true:=I5 _ _ _
 have qf:Al cs=uB.refs++uE.refs:=by
  rw[qT];simp only[Al,Lt,V.refs,Fd,Cm]
 have qZ:∀ j∈Al cs,σ.length<j/\j ∉ fp s m/\j<s.length:=fun j hj=>by
  rw[qf]at hj;rcases Cr.1 hj with hj | hj
  .exact r1 j hj
  .exact r2 j hj
 have jl:Cl (s.set σ.length (.row cs 68 0 0)):=G5 hk.cl fun i hi=>(qZ i hi).2.2
 have hn:=h.n;have qU:=Gf hk;rw[qU]at hn;simp only[Bj,not_or]at hn;have qO:(s.set σ.length (.row cs 68 0 0))[σ.length]?=some (.row cs 68 0 0):=Cc hl
 have ja:∀ j,j∈fp s m->(St.freeze (s.set σ.length (.row cs 68 0 0)) (Al cs))[j]?=s[j]?:=fun j hj=>by
  rw[Tv _ _ _ fun e=>(qZ j e).2.1 hj,Bg fun(e:σ.length=j)=>h.n (by rw[e];exact hj)]
 have jm:=ja m (by rw[qU];simp);refine⟨cs,[iV op,iV line,.str nm,.str arg,SL iz it (idx.map Xp.row),iV ex.op,iV ex.n,.str ex.nm,SL ex.z ex.t (ex.l.map Xp.row),SL z1 t1 (LB.map Sp.row),SL z2 t2 (LE.map Sp.row)],Ro qO he (by rw[qT];rfl),⟨?_,?_,?_⟩,⟨by rw[Gx];omega,jl⟩,⟨⟨op,line,nm,arg,iz,it,idx,ex,z1,t1,LB,z2,t2,LE⟩,by rw[Es],hS z1 t1 z2 t2⟩,⟨uH,N2 hk (Uh _ _ jl) jm ?_ fun i hi=>ja i (by rw[qU];simp[hi])⟩,?_⟩
 .rw[qT]
  have a1:V.cellB (SL iz it (idx.map Xp.row))=true:=by unfold SL;split<;>rfl
  have a2:V.cellB (SL ex.z ex.t (ex.l.map Xp.row))=true:=by unfold SL;split<;>rfl
  simp only[Av,Be,a1,a2,c1,c2];rfl
 .conv=>arg 2;rw[qT]
  exact .cons (Hj rfl) (.cons (Hj rfl) (.cons (Hj rfl) (.cons (Hj rfl) (.cons (Hj jp) (.cons (Hj rfl) (.cons (Hj rfl) (.cons (Hj rfl) (.cons (Hj jq) (.cons o1 (.cons o2 .nil))))))))))
 .have b1:V.rowB (SL z1 t1 (LB.map Sp.row))=true:=I5 _ _ _;have b2:V.rowB (SL z2 t2 (LE.map Sp.row))=true:=I5 _ _ _;simp only[Av,Be,jp,jq,b1,b2];rfl
 .obtain⟨z,t,l,a,h1,h2⟩:=hk.tape;exact⟨z,t,l,a,by rw[ja b (by rw[qU];simp)];exact h1,h2⟩
 .have hw:=h.fw;refine⟨by rw[Nk,Gx];omega,fun j hj jP=>?_,fun j hj=>?_⟩
  .rw[Tv _ _ _ fun e=>by have:=(qZ j e).1;omega,Bg (by omega)];exact hw.2.1 j hj jP
  .unfold fp at hj;rw[jm]at hj;exact hw.2.2 j hj
def Hp{k:Nat}{x:Sp}(h1:1<=x.op/\x.op<=15)(h2:x.idx.length<=1)(h3:x.op≠1->x.idx=[])(h4:∀ y∈x.idx,MX 0 y)(h5:(D1 x.op=true/\MX 1 x.ex)\/(D1 x.op=false/\x.ex=Xp.zero))(h6:(Fq x.op=true/\x.nm=[])\/(Fq x.op=false/\Ji x.nm))(h7:(x.op≠15/\x.arg=[])\/(x.op=15/\Ji x.arg))
  (h8:Bu x.op=false->x.body=[]) (jj:x.op≠2->x.els=[]) (h9:Bu x.op=true->k≠0/\(x.body.length<=3/\∀ y∈x.body,SM (k - 1) y)/\(x.els.length<=1/\∀ y∈x.els,SM (k - 1) y)):SM k x:=by
 have hv:∀ n:Int,(n=1\/n=2\/n=3\/n=14)->D1 n=true:=by
  rintro n (rfl | rfl | rfl | rfl)<;>rfl
 have e0:EB 0=22:=rfl;have e1:EB 1=54:=rfl;have x0:Lj 0=12:=rfl;have x1:Lj 1=36:=rfl;refine⟨A7n h1 h2 h3 (fun y hy=>⟨(h4 y hy).1,by have:=(h4 y hy).2.1;omega⟩) (fun h=>?_) (fun h=>?_) h6 h7 h8 jj fun h=>?_,?_⟩
 .rcases h5 with⟨-,h5⟩ | ⟨h5,-⟩
  .exact⟨h5.1,by have:=h5.2.1;omega⟩
  .rw[hv _ h]at h5;cases h5
 .rcases h5 with⟨h5,-⟩ | ⟨-,h5⟩
  .rw[h]at h5;cases h5
  .rw[h5];exact⟨rfl,rfl,rfl,rfl⟩
 .obtain⟨a,b,c⟩:=h9 h;exact⟨a,b.1,c.1,fun y hy=>(b.2 y hy).1,fun y hy=>(c.2 y hy).1⟩
 .have hn:x.nm.length<=4:=by
   rcases h6 with⟨-,h⟩ | ⟨-,h⟩
   .rw[h];simp
   .exact h.2
  have ha:x.arg.length<=4:=by
   rcases h7 with⟨-,h⟩ | ⟨-,h⟩
   .rw[h];simp
   .exact h.2
  have hi:Cs (x.idx.map Xp.row)<=12:=by
   rcases hx:x.idx with _ | ⟨y,r⟩
   .simp[Cs]
   .rw[hx]at h2 h4;have:r=[]:=X2.1 (by rw[Ak]at h2;omega);subst this;have:=(h4 y (by simp)).2.2;simp[Cs];omega
  have he:Cx x.ex.row<=36:=by
   rcases h5 with⟨-,h5⟩ | ⟨-,h5⟩
   .have:=h5.2.2;omega
   .rw[h5,Fz];simp[Xp.zero,Cs]
  rw[Ld];cases hb:Bu x.op
  .have jL:x.els=[]:=jj fun e=>by rw[e]at hb;cases hb
   rw[h8 hb,jL];simp only[By,Cs];have:BK 0<=BK k:=Aey (Ay _);have:BK 0=100:=rfl;omega
  .obtain⟨hk,⟨l1,b1⟩,⟨l2,b2⟩⟩:=h9 hb
   have qQ:∀ {l:List Sp},(∀ y∈l,SM (k - 1) y)->Cs (l.map Sp.row)<=l.length*BK (k - 1):=by
    intro l
    induction l with
    | nil=>intro _;simp[Cs]
    | cons y l ih=>
     intro h;have h1:=(h y (by simp)).2;have h2:=ih fun z hz=>h z (by simp[hz])
     rw[Bb,Cs,Ak,Ep];omega
   have g1:=qQ b1;have g2:=qQ b2;have g3:x.body.length*BK (k - 1)<=3*BK (k - 1):=Fo _ l1;have g4:x.els.length*BK (k - 1)<=1*BK (k - 1):=Fo _ l2
   have g5:BK k=100+4*BK (k - 1):=by
    cases k with
    | zero=>exact absurd rfl hk
    | succ k=>rfl
   omega
set_option maxHeartbeats 2000000 in
def Y7{k:Nat}(hS:Xz k):MBl k:=by
 intro σ m b uH H nm h hH;have qH:=Is h;obtain⟨th,left,se,tx,ao,lp,m1⟩:=h.row;have n1:(H.map fun x=>[V.str x]).length=H.length:=Ba ..;obtain⟨u',s2,e1,g,hl,hB,hr,hc⟩:=Tf (bytes:=16) (row:=[.str nm]) h.h (by omega) rfl rfl (by rw[n1];omega);have g':GS s2 1 9 u' ((H++[nm]).map fun x=>[V.str x]):=by rw[Ef];exact g
 obtain⟨h2,w2⟩:=Aoz h th left se tx ao lp hl hB g' hr (hc h.cl);have m2:s2[m]?=some (.row [.ptr b 0 0,iV th,iV left,.bool se,.bool tx,.bool ao,.bool lp,uH] 61 0 0):=(hB m qH fun e=>(h.hd m e).1 rfl).trans m1;obtain⟨jJ,jI⟩:=Hi (H2 g);obtain⟨s3,e3⟩:∃ t,t=s2.set m (.row [.ptr b 0 0,iV th,iV left,.bool se,.bool tx,.bool ao,.bool lp,u'] 61 0 0):=⟨_,rfl⟩;rw[<-e3]at h2 w2;have m3:s3[m]?=some (.row [.ptr b 0 0,iV th,iV left,.bool se,.bool tx,.bool ao,.bool lp,u'] 61 0 0):=by rw[e3];exact Cc (by omega)
 obtain⟨r,s4,q4,h4,w4,l4,r4,kc⟩:=Nv h2 2 2 rfl (by omega);have e4:IntKind.i64.wrap (1+(r:Int))=((1+r:Nat):Int):=by rw[C7 (by omega)];omega
 obtain⟨v,s5,q5,L,ki,hO,hL,hn,h5,w5⟩:=hS s4 m b u' (H++[nm]) h4 (by rw[Aj,Ht];omega) (1+r) (by omega);have jK:=H2 hO.1;obtain⟨qq,qb,qp,qx,qv,qw,m5⟩:=h5.row;have g5:=h5.h;rw[Ef,Bb,By]at g5;obtain⟨u6,jo,g6,jQ⟩:=Aor g5;rw[n1]at jo;obtain⟨qY,qX⟩:=Hi (H2 g6);obtain⟨h6,w6⟩:=Aoz (H':=H) h5 qq qb qp qx qv qw (Ah _) (fun _ _ _=>rfl) g6 (fun j hj=>.inl (by rw[<-jQ];exact hj)) h5.cl;have qV:=Apz hO w6;have jy:=E0 w2 (E0 w4 (E0 w5 w6));have l5:=W5 h5.h;rw[Ba,Aj,Ht]at l5;have e5:IntKind.i64.wrap (((H.length+1:Nat):Int) - 1)=(H.length:Int):=by rw[C7 (by omega)];omega
 have jk:OL σ (s5.set m (.row [.ptr b 0 0,iV qq,iV qb,.bool qp,.bool qx,.bool qv,.bool qw,u6] 61 0 0)) m v L:=⟨qV.1,fun j hj=>⟨by have:=(qV.2 j hj).1;have:=w2.1;have:=w4.1;omega,(qV.2 j hj).2⟩⟩;refine Zt T62 rfl ?_;simp only[go_sem,m1,e1,m2,jJ,jI];rw[<-e3];simp only[go_sem,m3];refine Ab q4 ?_;simp only[go_sem,e4];refine Ab q5 ?_;simp only[go_sem];refine Ag (by kernel_rfl) ?_;simp only[go_sem,m5,l5,e5,jo,qY,qX];refine Az ?_;simp only[go_sem];exact⟨v,rfl,⟨by cases v<;>simp[V.cellB]at jK<;>rfl,Cp jk.1⟩,⟨jy.1,h6.cl⟩,L,u6,jk,hL,by omega,h6,jy⟩
def Gd{l:List UInt8}(h:(B3 l&&decide (l.length<=4))=true):Ji l:=by
 simp only[Af,decide_eq_true_eq]at h;exact h
def Fu(nm:List UInt8):Xp:=⟨2,0,nm,true,0,[]⟩
def Fh(n:Int):Xp:=⟨1,n,[],true,0,[]⟩
def J2(op:Int)(nm:List UInt8)(n:Int):Xp:=⟨op,0,[],true,1,[Fu nm,Fh n]⟩
def Aqn(op:Int)(nm:List UInt8)(n:Int):Fn TT PT 59 [iV op,.agg [iV 2,iV 0,.str nm,.nils],.agg [iV 1,iV n,.str [],.nils]] (.agg [iV op,iV 0,.str [],.lst 1 [[iV 2,iV 0,.str nm,.nils],[iV 1,iV n,.str [],.nils]]]):=by
 have h:=Am1 op (Fu nm) (Fh n);rw[A0 ⟨op,0,[],true,1,[Fu nm,Fh n]⟩]at h;simp only[Bb,By]at h;rw[A0 (Fu nm),A0 (Fh n)]at h;exact h
def Afo(op:Int)(nm:List UInt8)(n:Int):(J2 op nm n).l.map Xp.row=[[iV 2,iV 0,.str nm,.nils],[iV 1,iV n,.str [],.nils]]:=by
 unfold J2;simp only[Bb,By];rw[A0 (Fu nm),A0 (Fh n)];rfl
def A7t{nm:List UInt8}(h:Ji nm)(d:Nat):MX d (Fu nm):=by
 refine⟨.name h.1,?_,?_⟩
 .rw[show(Fu nm).txt=nm by unfold Fu;rw[Ez];rfl];have:=Abh d;have:=h.2;omega
 .unfold Fu;rw[Fz];have:=Aa2 d;have:=h.2;simp[Cs];omega
def Ap1{op:Int}(ho:6<=op/\op<=18):MX 1 (J2 op [98] 2)/\MX 1 (J2 op [98] 1):=by
 have jt:∀ n:Int,(n=1\/n=2)->MX 1 (J2 op [98] n):=by
  intro n hn;have hx:ShE (Fu [98]):=.name (by kernel_rfl);have hy:ShE (Fh n):=.num (by omega);have t1:(Fu [98]).txt=[98]:=by unfold Fu;rw[Ez];rfl
  have t2:(Fh n).txt.length=1:=by
   rcases hn with rfl | rfl<;>(unfold Fh;rw[Ez];rfl)
  refine⟨.bin ho hx hy,?_,?_⟩
  .unfold J2;rw[Ez];have h2:=(Lu ((Fu [98]).op,(Fu [98]).txt) (Gq op)).2;have jF:=(Lu ((Fh n).op,(Fh n).txt) (Bo op+1)).2;simp only at h2 jF;have h3:(Ci op).length<=2:=Am3 _
   have h0:Dv op 0 [] [((Fu [98]).op,(Fu [98]).txt),((Fh n).op,(Fh n).txt)]=Dr ((Fu [98]).op,(Fu [98]).txt) (Gq op)++32::(Ci op++32::Dr ((Fh n).op,(Fh n).txt) (Bo op+1)):=by
    unfold Dv;rw[if_neg (by omega),if_neg (by omega)]
   have e1:EB 1=54:=rfl;have t3:(Fu [98]).txt.length=1:=by rw[t1];rfl
   simp only[Bb,By,h0,Aj,Ak];omega
  .have x1:Lj 1=36:=rfl;rw[Fz];unfold J2;simp only[Bb,By,Cs,C0];rw[Fz,Fz,x1];unfold Fu Fh;simp[Cs]
 exact⟨jt 2 (.inr rfl),jt 1 (.inl rfl)⟩
def J3(nm:List UInt8)(x:Xp):Sp:=⟨1,0,nm,[],true,0,[],x,true,0,[],true,0,[]⟩
def Aa3(nm:List UInt8)(x:Xp):(J3 nm x).row=[iV 1,iV 0,.str nm,.str [],.nils,iV x.op,iV x.n,.str x.nm,SL x.z x.t (x.l.map Xp.row),.nils,.nils]:=by
 rw[Es];rfl
def Afp{k:Nat}{nm:List UInt8}{x:Xp}(hn:Ji nm)(hx:MX 1 x)(z:Bool)(t:Nat)(z':Bool)(t':Nat):SM k ⟨1,0,nm,[],true,0,[],x,z,t,[],z',t',[]⟩:=
 Hp (by simp) (by simp) (fun h=>absurd rfl h) (by simp) (.inl ⟨rfl,hx⟩) (.inr ⟨rfl,hn⟩) (.inl ⟨by simp,rfl⟩) (fun _=>rfl) (fun _=>rfl) (fun h=>by have h:false=true:=h;cases h)
def Agj{k:Nat}{nm:List UInt8}{x:Xp}(hn:Ji nm)(hx:MX 1 x):SM k (J3 nm x):=
 Hp (by simp[J3]) (by simp[J3]) (fun h=>absurd rfl h) (by simp[J3]) (.inl ⟨rfl,hx⟩) (.inr ⟨rfl,hn⟩) (.inl ⟨by simp[J3],rfl⟩) (fun _=>rfl) (fun _=>rfl) (fun h=>by have h:false=true:=h;cases h)
def J4(op:Int)(nm:List UInt8):Sp:=⟨op,0,nm,[],true,0,[],Xp.zero,true,0,[],true,0,[]⟩
def Tw(op:Int)(nm:List UInt8):(J4 op nm).row=[iV op,iV 0,.str nm,.str [],.nils,iV 0,iV 0,.str [],.nils,.nils,.nils]:=by
 rw[Es];rfl
def Xi{k:Nat}{op:Int}{nm:List UInt8}(ho:op=9\/op=10\/op=11\/op=12\/op=13)(hn:Ji nm):SM k (J4 op nm):=by
 rcases ho with rfl | rfl | rfl | rfl | rfl
 all_goals exact Hp (by simp[J4]) (by simp[J4]) (fun _=>rfl) (by simp[J4]) (.inr ⟨rfl,rfl⟩) (.inr ⟨rfl,hn⟩) (.inl ⟨by simp[J4],rfl⟩) (fun _=>rfl) (fun _=>rfl) (fun h=>by have h:false=true:=h;cases h)
set_option maxRecDepth 20000 in
set_option maxHeartbeats 16000000 in
def Aiw{k:Nat}(hk:k<=20)(ih:∀ j,j<k->Xz j):MSt k:=by
 intro σ m b uH H h hH;have qH:=Is h
 suffices hh:∃ v σ',Th TT PT 37 [.ptr m 0 0,iV (k:Int)] σ v σ'/\((∃ x:Sp,v=.agg x.row/\SM k x)/\(∃ ql,MKr σ' m b ql H)/\FW m σ σ') from hh
 refine Awn T37 rfl ?_;have e3:k≠0->IntKind.i64.wrap ((k:Int) - 1)=((k - 1:Nat):Int):=fun h0=>by rw[C7 (by omega)];omega
 refine G0 (fun e s=>e=[(0,.ptr m 0 0),(1,iV (k:Int)),(4,.ptr σ.length 0 0)]/\MW σ s m b H) ?_ ?_
 .intro k' qc;simp only[go_sem];obtain⟨a1,a2⟩:=Aag h [.row [iV 0,iV 0,.str [],.str [],.nils,iV 0,iV 0,.str [],.nils,.nils,.nils] 68 0 0] (Hk h.cl rfl);exact qc _ _ ⟨rfl,⟨_,a1⟩,a2,by simp,fun hm=>by rw[Gf a1,<-Gf h]at hm;exact Aa0 (τ:=σ) h (Ah _) hm,qH⟩
 clear h uH;rintro e s ⟨rfl,h1⟩;refine G0 (fun e s=>e=[(0,.ptr m 0 0),(1,iV (k:Int)),(4,.ptr σ.length 0 0)]/\MW σ s m b H) ?_ ?_
 .intro k' qc;obtain⟨th,left,se,tx,ao,lp,vH,m1,ho⟩:=H7 h1;simp only[go_sem,m1];exact qc _ _ ⟨rfl,(ho _ _ _ _ _ _).1⟩
 clear h1 s;rintro e s ⟨rfl,h1⟩;refine G0 (fun e s=>∃ r:Nat,r<18/\e=[(0,.ptr m 0 0),(1,iV (k:Int)),(4,.ptr σ.length 0 0),(5,iV (r:Int))]/\MW σ s m b H) ?_ ?_
 .intro k' qc;obtain⟨th,left,se,tx,ao,lp,vH,m1,-⟩:=H7 h1;obtain⟨r,s2,q,hr,h2,w2,mm⟩:=Ti h1 18;simp only[go_sem,m1];refine Ab q ?_;simp only[go_sem];exact qc _ _ ⟨r,by omega,rfl,h2⟩
 clear h1 s;rintro e s ⟨r,hr,rfl,h1⟩;refine G0 (fun e s=>∃ nb:Bool,(nb=true->k≠0)/\e=[(0,.ptr m 0 0),(1,iV (k:Int)),(4,.ptr σ.length 0 0),(5,iV (r:Int)),(6,.bool nb)]/\MW σ s m b H) ?_ ?_
 .intro k' qc;obtain⟨th,left,se,tx,ao,lp,vH,m1,-⟩:=H7 h1;by_cases qd:k=0
  .have f1:((0:Int)<(k:Int))=False:=eq_false (by omega);simp only[go_sem,gt_iff_lt,f1];exact qc _ _ ⟨false,(fun h=>by cases h),rfl,h1⟩
  have f1:((0:Int)<(k:Int))=True:=eq_true (by omega);by_cases hl:0<left
  .have f2:((0:Int)<left)=True:=eq_true hl;cases tx
   .simp only[go_sem,gt_iff_lt,f1,f2,m1,Aw];exact qc _ _ ⟨true,fun _=>qd,rfl,h1⟩
   .simp only[go_sem,gt_iff_lt,f1,f2,m1,Au];exact qc _ _ ⟨false,(fun h=>by cases h),rfl,h1⟩
  .have f2:((0:Int)<left)=False:=eq_false hl;simp only[go_sem,gt_iff_lt,f1,f2,m1];exact qc _ _ ⟨false,(fun h=>by cases h),rfl,h1⟩
 clear h1 s;rintro e s ⟨nb,qB,rfl,h1⟩;have qI:H.length<=1000:=by omega
 refine G0 (fun e s=>e=[(0,.ptr m 0 0),(1,iV (k:Int)),(4,.ptr σ.length 0 0)]/\MW σ s m b H) ?_ ?_;rotate_left
 .clear h1 s;rintro e s ⟨rfl,h1⟩;obtain⟨x,s2,q2,hx,h2,w2,xs⟩:=Q2 h1 1;simp only[go_sem];refine Ca q2 ?_;simp only[go_sem];refine Ad (Sf [120] x) (by simp only[go_sem]) ?_;simp only[go_sem,h2.z];exact Hl (op:=1) (line:=0) (nm:=[120]) (arg:=[]) (iz:=true) (it:=0) (idx:=[]) (ex:=x) (LB:=[]) (LE:=[]) h2 rfl (.inl ⟨true,0,rfl⟩) (.inl ⟨true,0,rfl⟩) (by rfl) fun _ _ _ _=>Afp (Gd (by kernel_rfl)) hx _ _ _ _
 intro k' qc;rcases(show r<4\/r=4\/r=5\/r=6\/r=7\/r=8\/r=9\/r=10\/r=11\/r=12\/r=13\/r=14\/r=15\/r=16\/r=17 by omega) with h4 | rfl | rfl | rfl | rfl | rfl | rfl | rfl | rfl | rfl | rfl | rfl | rfl | rfl | rfl
 .obtain⟨nm,hn,jb⟩:=Vz [[120],[121],[120],[118]] (by kernel_rfl) (j:=r) (by simp;omega);simp only[Bb,By]at hn;have f1:((r:Int)<4)=True:=eq_true (by omega);obtain⟨x,s2,q2,hx,h2,w2,xs⟩:=Q2 h1 1;simp only[go_sem,f1];refine Ag (by kernel_rfl) ?_;simp only[go_sem,hn];refine Gk (Aa1 q2) ?_;simp only[go_sem];refine A1 (Sf nm x) (by simp only[go_sem,xs]) ?_;simp only[go_sem,h2.z];refine Az ?_;simp only[go_sem];exact Hl (op:=1) (line:=0) (nm:=nm) (arg:=[]) (iz:=true) (it:=0) (idx:=[]) (ex:=x) (LB:=[]) (LE:=[]) h2 rfl (.inl ⟨true,0,rfl⟩) (.inl ⟨true,0,rfl⟩) (by rfl) fun _ _ _ _=>Afp jb hx _ _ _ _
 .obtain⟨th,left,se,tx,ao,lp,vH,m1,-⟩:=H7 h1;obtain⟨j,s2,q2,hj,h2,w2,kb⟩:=Ti h1 2;obtain⟨nm,hn,jb⟩:=Vz [[97],[98]] (by kernel_rfl) (j:=j) (by simp;omega);simp only[Bb,By]at hn;obtain⟨x,s3,q3,hx,h3,w3,xs⟩:=Q2 h2 1;have jW:Bt TT PT 22 [.ptr b 0 0,iV 2] s (iV (j:Int)) s2:=q2;simp only[go_sem,Cu,Int.reduceLT,Int.reduceBEq];refine Ag (by kernel_rfl) ?_;simp only[go_sem,m1];refine Gk jW ?_;simp only[go_sem,hn];refine wgR ?_;simp only[go_sem];have jX:Th TT PT 58 [.ptr m 0 0,iV 1] s2 (.agg [iV x.op,iV x.n,.str x.nm,SL x.z x.t (x.l.map Xp.row)]) s3:=q3;refine Gk (Aa1 jX) ?_;simp only[go_sem];refine A1 (Sf nm x) (by simp only[go_sem,xs]) ?_;simp only[go_sem,h3.z];refine Az ?_;simp only[go_sem];exact Hl (op:=1) (line:=0) (nm:=nm) (arg:=[]) (iz:=true) (it:=0) (idx:=[]) (ex:=x) (LB:=[]) (LE:=[]) h3 rfl (.inl ⟨true,0,rfl⟩) (.inl ⟨true,0,rfl⟩) (by rfl) fun _ _ _ _=>Afp jb hx _ _ _ _
 .obtain⟨y,s2,q2,hy,h2,w2,ys⟩:=Q2 h1 0;obtain⟨x,s3,q3,hx,h3,w3,xs⟩:=Q2 h2 1;have jV:=A0 y;simp only[go_sem,Cu,Int.reduceLT,Int.reduceBEq];refine Ca q2 ?_;simp only[go_sem];refine Ca q3 ?_;simp only[go_sem,h3.z];exact Hl (op:=1) (line:=0) (nm:=[113]) (arg:=[]) (iz:=true) (it:=1) (idx:=[y]) (ex:=x) (LB:=[]) (LE:=[]) h3 rfl (.inl ⟨true,0,rfl⟩) (.inl ⟨true,0,rfl⟩) (by simp only[Bb,By,jV];rfl) fun _ _ _ _=>Hp (by simp) (by simp) (fun h=>absurd rfl h) (by simp;exact hy) (.inl ⟨rfl,hx⟩) (.inr ⟨rfl,Gd (by kernel_rfl)⟩) (.inl ⟨by simp,rfl⟩) (fun _=>rfl) (fun _=>rfl) (fun h=>by have h:false=true:=h;cases h)
 .by_cases qd:k=0
  .have f1:((0:Int)<(k:Int))=False:=eq_false (by omega);simp only[go_sem,Cu,Int.reduceLT,Int.reduceBEq,gt_iff_lt,f1];exact qc _ _ ⟨rfl,h1⟩
  have f1:((0:Int)<(k:Int))=True:=eq_true (by omega);have ek:=e3 qd;obtain⟨x,s2,q2,hx,h2,w2,xs⟩:=Q2 h1 1;obtain⟨u3,L3,s3,q3,b3,⟨qr,qs,qm,r3⟩,⟨L31,L32⟩,h3,w3⟩:=V1 (ih (k - 1) (by omega)) h2 (by omega) 1;obtain⟨jn,jz,jw,jd,jf⟩:=Aah h3 (.row [iV 2,iV 0,.str [],.str [],.nils,iV x.op,iV x.n,.str x.nm,SL x.z x.t (x.l.map Xp.row),u3,.nils] 68 0 0) (by simp only[Ob.refs,Al,Lt,V.refs,Fd,Cm];exact fun i hi=>Aci (Cp b3.1 i hi));obtain⟨s4,jh⟩:∃ t,t=s3++[Ob.row [iV 2,iV 0,.str [],.str [],.nils,iV x.op,iV x.n,.str x.nm,SL x.z x.t (x.l.map Xp.row),u3,.nils] 68 0 0]:=⟨_,rfl⟩;rw[<-jh]at jn jz jw jd;have h4:=jn;have b4:=N7 b3 jz;obtain⟨th,left,se,tx,ao,lp,vH,m4,-⟩:=H7 h4;obtain⟨j,s5,q5,hj,h5,w5,ke⟩:=Ti h4 2;have b5:=N7 b4 w5;obtain⟨k5,n5⟩:=Hh w5 jd jw;simp only[go_sem,Cu,Int.reduceLT,Int.reduceBEq,gt_iff_lt,f1];refine Ca q2 ?_;simp only[go_sem,ek];refine Ab q3 ?_;simp only[go_sem,qr,qs,qm];rw[<-jh];simp only[go_sem,m4];refine Ab q5 ?_;by_cases j1:j=1
  .subst j1;obtain⟨u6,L6,s6,q6,b6,⟨jC,jD,jE,r6⟩,⟨L61,L62⟩,h6,w6⟩:=V1 (ih (k - 1) (by omega)) h5 (by omega) 1;obtain⟨k6,n6⟩:=Hh w6 k5 n5;have je:=N7 b5 w6;have jR:σ.length<s3.length:=Ui h3;have jO:s3.length<s6.length:=(Ap.1 k6).1;have jS:s3.length ∉ u3.refs:=fun e=>by have:=Cp b3.1 _ e;omega
   have jT:s3.length ∉ u6.refs:=fun e=>by
    have:=r6 _ e;have:=w5.1;have:=(Ap.1 jd).1;omega
   have h7:=A4f h6 (.row [iV 2,iV 0,.str [],.str [],.nils,iV x.op,iV x.n,.str x.nm,SL x.z x.t (x.l.map Xp.row),u3,u6] 68 0 0) jR n6 (by
    simp only[Ob.refs,Al,Lt,V.refs,Fd,Cm];intro i hi;rcases Cr.1 hi with hi | hi
    .exact Cp je.1 i hi
    .exact Cp b6.1 i hi)
   have k7:(s6.set s3.length (.row [iV 2,iV 0,.str [],.str [],.nils,iV x.op,iV x.n,.str x.nm,SL x.z x.t (x.l.map Xp.row),u3,u6] 68 0 0))[s3.length]?=some (.row [iV 2,iV 0,.str [],.str [],.nils,iV x.op,iV x.n,.str x.nm,SL x.z x.t (x.l.map Xp.row),u3,u6] 68 0 0):=Cc jO;have z7:=h7.z;have jA:=Ao1 (.row [iV 2,iV 0,.str [],.str [],.nils,iV x.op,iV x.n,.str x.nm,SL x.z x.t (x.l.map Xp.row),u3,u6] 68 0 0) je jS jf;have jB:=Ao1 (.row [iV 2,iV 0,.str [],.str [],.nils,iV x.op,iV x.n,.str x.nm,SL x.z x.t (x.l.map Xp.row),u3,u6] 68 0 0) b6 jT jf;simp only[go_sem,Cu,Int.reduceBEq,ek];refine Ab q6 ?_;simp only[go_sem,k6,jC,jD,jE,qm,k7,z7];exact Hl (op:=2) (line:=0) (nm:=[]) (arg:=[]) (iz:=true) (it:=0) (idx:=[]) (ex:=x) (LB:=L3) (LE:=L6) h7 rfl (.inr jA) (.inr jB) (by rfl) fun _ _ _ _=>Hp (by simp) (by simp) (fun _=>rfl) (by simp) (.inl ⟨rfl,hx⟩) (.inl ⟨rfl,rfl⟩) (.inl ⟨by simp,rfl⟩) (fun h=>by have h:true=false:=h;cases h) (fun h=>absurd rfl h) (fun _=>⟨qd,⟨Cv L32 (by omega),L31⟩,⟨L62,L61⟩⟩)
  .have fj:((j:Int)==1)=false:=by simp;omega
   simp only[go_sem,fj,k5,h5.z,qm];exact Hl (op:=2) (line:=0) (nm:=[]) (arg:=[]) (iz:=true) (it:=0) (idx:=[]) (ex:=x) (LB:=L3) (LE:=[]) h5 rfl (.inr b5) (.inl ⟨true,0,rfl⟩) (by rfl) fun _ _ _ _=>Hp (by simp) (by simp) (fun _=>rfl) (by simp) (.inl ⟨rfl,hx⟩) (.inl ⟨rfl,rfl⟩) (.inl ⟨by simp,rfl⟩) (fun h=>by have h:true=false:=h;cases h) (fun h=>absurd rfl h) (fun _=>⟨qd,⟨Cv L32 (by omega),L31⟩,⟨by simp,by simp⟩⟩)
 .by_cases qd:k=0
  .have f1:((0:Int)<(k:Int))=False:=eq_false (by omega);simp only[go_sem,Cu,Int.reduceLT,Int.reduceBEq,gt_iff_lt,f1];exact qc _ _ ⟨rfl,h1⟩
  have f1:((0:Int)<(k:Int))=True:=eq_true (by omega);have ek:=e3 qd;obtain⟨qg,qa,qk,qn,qe,qj,qu,m1,qt⟩:=H7 h1;obtain⟨h2,w2⟩:=qt qg qa qk qn qe true;obtain⟨s2,qo⟩:∃ t,t=s.set m (.row [.ptr b 0 0,iV qg,iV qa,.bool qk,.bool qn,.bool qe,.bool true,qu] 61 0 0):=⟨_,rfl⟩;rw[<-qo]at h2 w2;obtain⟨u3,L3,s3,q3,b3,⟨qr,qs,qm,r3⟩,⟨L31,L32⟩,h3,w3⟩:=V1 (ih (k - 1) (by omega)) h2 (by omega) 1;obtain⟨u4,s4,ha,b4,⟨qK,qL,qy⟩,h4⟩:=A4g b3 h3 (J3 [98] (J2 6 [98] 1)) (by omega);rw[Aa3,Afo]at ha;simp only[J2,SL,reduceCtorEq,and_false,true_and,if_false]at ha;have qJ:=Sf [98] (J2 6 [98] 1);rw[Afo]at qJ;simp only[J2,SL,reduceCtorEq,and_false,true_and,if_false]at qJ;obtain⟨qC,qF,qE,qD,jg⟩:=Aah h4 (.row [iV 3,iV 0,.str [],.str [],.nils,iV 13,iV 0,.str [],.lst 1 [[iV 2,iV 0,.str [98],.nils],[iV 1,iV 2,.str [],.nils]],u4,.nils] 68 0 0) (by simp only[Ob.refs,Al,Lt,V.refs,Fd,Cm];exact fun i hi=>Aci (Cp b4.1 i hi));obtain⟨s5,qz⟩:∃ t,t=s4++[Ob.row [iV 3,iV 0,.str [],.str [],.nils,iV 13,iV 0,.str [],.lst 1 [[iV 2,iV 0,.str [98],.nils],[iV 1,iV 2,.str [],.nils]],u4,.nils] 68 0 0]:=⟨_,rfl⟩;rw[<-qz]at qC qF qE qD;have h5:=qC;have b5:=N7 b4 qF;obtain⟨qq,qb,qp,qx,qv,qw,qR,m5,qN⟩:=H7 h5;obtain⟨h6,w6⟩:=qN qq qb qp qx qv qj;obtain⟨s6,qA⟩:∃ t,t=s5.set m (.row [.ptr b 0 0,iV qq,iV qb,.bool qp,.bool qx,.bool qv,.bool qj,qR] 61 0 0):=⟨_,rfl⟩;rw[<-qA]at h6 w6;have b6:=N7 b5 w6;obtain⟨k6,n6⟩:=Hh w6 qD qE;simp only[go_sem,Cu,Int.reduceLT,Int.reduceBEq,gt_iff_lt,f1,m1];rw[<-qo];refine Ad (Abk _) (by rfl) ?_;simp only[go_sem];refine Ad (Ab2 _) (by rfl) ?_;simp only[go_sem];refine Ad (Aqn _ _ _) (by rfl) ?_;simp only[go_sem,ek];refine Ab q3 ?_;simp only[go_sem];refine Ad (Abk _) (by rfl) ?_;simp only[go_sem];refine Ad (Ab2 _) (by rfl) ?_;simp only[go_sem];refine Ad (Aqn _ _ _) (by rfl) ?_;simp only[go_sem];refine Ad qJ (by rfl) ?_;simp only[go_sem,ha,qK,qL,qy];rw[<-qz];simp only[go_sem,m5];rw[<-qA];simp only[go_sem,k6,h6.z,qy]
  exact Hl (op:=3) (line:=0) (nm:=[]) (arg:=[]) (iz:=true) (it:=0) (idx:=[]) (ex:=J2 13 [98] 2) (LB:=(L3++[J3 [98] (J2 6 [98] 1)])) (LE:=[]) h6 rfl (.inr b6) (.inl ⟨true,0,rfl⟩) (by rw[Afo];rfl) fun _ _ _ _=>Hp (by simp) (by simp) (fun _=>rfl) (by simp) (.inl ⟨rfl,(Ap1 (by omega)).1⟩) (.inl ⟨rfl,rfl⟩) (.inl ⟨by simp,rfl⟩) (fun h=>by have h:true=false:=h;cases h) (fun _=>rfl) (fun _=>⟨qd,⟨Cv (Ac0 Aj) (by rw[Ht];omega),fun y hy=>(Cr.1 hy).elim (L31 y) fun hy=>by rw[E4.1 hy];exact Agj (Gd (by kernel_rfl)) (Ap1 (by omega)).2⟩,⟨by simp,by simp⟩⟩)
 .cases nb
  .simp only[go_sem,Cu,Int.reduceLT,Int.reduceBEq];exact qc _ _ ⟨rfl,h1⟩
  have qd:=qB rfl;have ek:=e3 qd;obtain⟨z,qh⟩:=Sz h1 qI [109];simp only[go_sem,Cu,Int.reduceLT,Int.reduceBEq,Int.reduceSub];refine Ca qh ?_;cases z;rotate_left
  .simp only[go_sem,Cu,Int.reduceLT,Int.reduceBEq,Au];exact qc _ _ ⟨rfl,h1⟩
  obtain⟨u3,L3,s3,q3,b3,⟨qr,qs,qm,r3⟩,⟨L31,L32⟩,h3,w3⟩:=Zu (Y7 (ih (k - 1) (by omega))) h1 (by omega) [109];simp only[go_sem,Cu,Int.reduceLT,Int.reduceBEq,Int.reduceSub,Aw,ek];refine Ab q3 ?_;simp only[go_sem,qr,qs,qm,h3.z];exact Hl (op:=4) (line:=0) (nm:=[109]) (arg:=[]) (iz:=true) (it:=0) (idx:=[]) (ex:=Xp.zero) (LB:=L3) (LE:=[]) h3 rfl (.inr b3) (.inl ⟨true,0,rfl⟩) (by rfl) fun _ _ _ _=>Hp (by simp) (by simp) (fun _=>rfl) (by simp) (.inr ⟨rfl,rfl⟩) (.inr ⟨rfl,Gd (by kernel_rfl)⟩) (.inl ⟨by simp,rfl⟩) (fun h=>by have h:true=false:=h;cases h) (fun _=>rfl) (fun _=>⟨qd,⟨Cv L32 (by omega),L31⟩,⟨by simp,by simp⟩⟩)
 .cases nb
  .simp only[go_sem,Cu,Int.reduceLT,Int.reduceBEq];exact qc _ _ ⟨rfl,h1⟩
  have qd:=qB rfl;have ek:=e3 qd;obtain⟨z,qh⟩:=Sz h1 qI [110];simp only[go_sem,Cu,Int.reduceLT,Int.reduceBEq,Int.reduceSub];refine Ca qh ?_;cases z;rotate_left
  .simp only[go_sem,Cu,Int.reduceLT,Int.reduceBEq,Au];exact qc _ _ ⟨rfl,h1⟩
  obtain⟨u3,L3,s3,q3,b3,⟨qr,qs,qm,r3⟩,⟨L31,L32⟩,h3,w3⟩:=Zu (Y7 (ih (k - 1) (by omega))) h1 (by omega) [110];simp only[go_sem,Cu,Int.reduceLT,Int.reduceBEq,Int.reduceSub,Aw,ek];refine Ab q3 ?_;simp only[go_sem,qr,qs,qm,h3.z];exact Hl (op:=4) (line:=0) (nm:=[110]) (arg:=[]) (iz:=true) (it:=0) (idx:=[]) (ex:=Xp.zero) (LB:=L3) (LE:=[]) h3 rfl (.inr b3) (.inl ⟨true,0,rfl⟩) (by rfl) fun _ _ _ _=>Hp (by simp) (by simp) (fun _=>rfl) (by simp) (.inr ⟨rfl,rfl⟩) (.inr ⟨rfl,Gd (by kernel_rfl)⟩) (.inl ⟨by simp,rfl⟩) (fun h=>by have h:true=false:=h;cases h) (fun _=>rfl) (fun _=>⟨qd,⟨Cv L32 (by omega),L31⟩,⟨by simp,by simp⟩⟩)
 .cases nb
  .simp only[go_sem,Cu,Int.reduceLT,Int.reduceBEq];exact qc _ _ ⟨rfl,h1⟩
  have qd:=qB rfl;have ek:=e3 qd;obtain⟨z,qh⟩:=Sz h1 qI [114];simp only[go_sem,Cu,Int.reduceLT,Int.reduceBEq,Int.reduceSub];refine Ca qh ?_;cases z;rotate_left
  .simp only[go_sem,Cu,Int.reduceLT,Int.reduceBEq,Au];exact qc _ _ ⟨rfl,h1⟩
  obtain⟨u3,L3,s3,q3,b3,⟨qr,qs,qm,r3⟩,⟨L31,L32⟩,h3,w3⟩:=Zu (Y7 (ih (k - 1) (by omega))) h1 (by omega) [114];simp only[go_sem,Cu,Int.reduceLT,Int.reduceBEq,Int.reduceSub,Int.reduceAdd,Aw,ek];refine Ab q3 ?_;simp only[go_sem,qr,qs,qm,h3.z];exact Hl (op:=5) (line:=0) (nm:=[114]) (arg:=[]) (iz:=true) (it:=0) (idx:=[]) (ex:=Xp.zero) (LB:=L3) (LE:=[]) h3 rfl (.inr b3) (.inl ⟨true,0,rfl⟩) (by rfl) fun _ _ _ _=>Hp (by simp) (by simp) (fun _=>rfl) (by simp) (.inr ⟨rfl,rfl⟩) (.inr ⟨rfl,Gd (by kernel_rfl)⟩) (.inl ⟨by simp,rfl⟩) (fun h=>by have h:true=false:=h;cases h) (fun _=>rfl) (fun _=>⟨qd,⟨Cv L32 (by omega),L31⟩,⟨by simp,by simp⟩⟩)
 .cases nb
  .simp only[go_sem,Cu,Int.reduceLT,Int.reduceBEq];exact qc _ _ ⟨rfl,h1⟩
  have qd:=qB rfl;have ek:=e3 qd;obtain⟨z,qh⟩:=Sz h1 qI [114];simp only[go_sem,Cu,Int.reduceLT,Int.reduceBEq,Int.reduceSub];refine Ca qh ?_;cases z;rotate_left
  .simp only[go_sem,Cu,Int.reduceLT,Int.reduceBEq,Au];exact qc _ _ ⟨rfl,h1⟩
  obtain⟨u3,L3,s3,q3,b3,⟨qr,qs,qm,r3⟩,⟨L31,L32⟩,h3,w3⟩:=Zu (Y7 (ih (k - 1) (by omega))) h1 (by omega) [114];simp only[go_sem,Cu,Int.reduceLT,Int.reduceBEq,Int.reduceSub,Int.reduceAdd,Aw,ek];refine Ab q3 ?_;simp only[go_sem,qr,qs,qm,h3.z];exact Hl (op:=6) (line:=0) (nm:=[114]) (arg:=[]) (iz:=true) (it:=0) (idx:=[]) (ex:=Xp.zero) (LB:=L3) (LE:=[]) h3 rfl (.inr b3) (.inl ⟨true,0,rfl⟩) (by rfl) fun _ _ _ _=>Hp (by simp) (by simp) (fun _=>rfl) (by simp) (.inr ⟨rfl,rfl⟩) (.inr ⟨rfl,Gd (by kernel_rfl)⟩) (.inl ⟨by simp,rfl⟩) (fun h=>by have h:true=false:=h;cases h) (fun _=>rfl) (fun _=>⟨qd,⟨Cv L32 (by omega),L31⟩,⟨by simp,by simp⟩⟩)
 .cases nb
  .simp only[go_sem,Cu,Int.reduceLT,Int.reduceBEq];exact qc _ _ ⟨rfl,h1⟩
  have qd:=qB rfl;have ek:=e3 qd;obtain⟨qg,qa,qk,qn,qe,qj,qu,m1,qt⟩:=H7 h1;obtain⟨h2,w2⟩:=qt qg qa qk true qe qj;obtain⟨s2,qo⟩:∃ t,t=s.set m (.row [.ptr b 0 0,iV qg,iV qa,.bool qk,.bool true,.bool qe,.bool qj,qu] 61 0 0):=⟨_,rfl⟩;rw[<-qo]at h2 w2;obtain⟨kg,ju,kf,kh,jY,ka,jx,m2,-⟩:=H7 h2;obtain⟨j,s3,q3,hj,h3,w3,jv⟩:=Ti h2 2;have ej:IntKind.i64.wrap (1+(j:Int))=((1+j:Nat):Int):=by rw[C7 (by omega)];omega
  obtain⟨u4,L4,s4,q4,b4,⟨qK,qL,qy,r4⟩,⟨L41,L42⟩,h4,w4⟩:=V1 (ih 0 (by omega)) h3 (by omega) (1+j);obtain⟨qC,qF,qE,qD,jg⟩:=Aah h4 (.row [iV 7,iV 0,.str [],.str [],.nils,iV 0,iV 0,.str [],.nils,u4,.nils] 68 0 0) (by simp only[Ob.refs,Al,Lt,V.refs,Fd,Cm];exact fun i hi=>Aci (Cp b4.1 i hi));obtain⟨s5,qz⟩:∃ t,t=s4++[Ob.row [iV 7,iV 0,.str [],.str [],.nils,iV 0,iV 0,.str [],.nils,u4,.nils] 68 0 0]:=⟨_,rfl⟩;rw[<-qz]at qC qF qE qD;have h5:=qC;have b5:=N7 b4 qF;obtain⟨qq,qb,qp,qx,qv,qw,qR,m5,qN⟩:=H7 h5;obtain⟨h6,w6⟩:=qN qq qb qp false qv qw;obtain⟨s6,qA⟩:∃ t,t=s5.set m (.row [.ptr b 0 0,iV qq,iV qb,.bool qp,.bool false,.bool qv,.bool qw,qR] 61 0 0):=⟨_,rfl⟩;rw[<-qA]at h6 w6;have b6:=N7 b5 w6;obtain⟨k6,n6⟩:=Hh w6 qD qE;simp only[go_sem,Cu,Int.reduceLT,Int.reduceBEq,m1];rw[<-qo];simp only[go_sem,m2];refine Ab q3 ?_;simp only[go_sem,ej];refine Ab q4 ?_;simp only[go_sem,qK,qL,qy];rw[<-qz];simp only[go_sem,m5];rw[<-qA];simp only[go_sem,k6,h6.z,qy];exact Hl (op:=7) (line:=0) (nm:=[]) (arg:=[]) (iz:=true) (it:=0) (idx:=[]) (ex:=Xp.zero) (LB:=L4) (LE:=[]) h6 rfl (.inr b6) (.inl ⟨true,0,rfl⟩) (by rfl) fun _ _ _ _=>Hp (by simp) (by simp) (fun _=>rfl) (by simp) (.inr ⟨rfl,rfl⟩) (.inl ⟨rfl,rfl⟩) (.inl ⟨by simp,rfl⟩) (fun h=>by have h:true=false:=h;cases h) (fun _=>rfl) (fun _=>⟨qd,⟨Cv L42 (by omega),fun y hy=>A0n (Ay _) (L41 y hy)⟩,⟨by simp,by simp⟩⟩)
 .cases nb
  .simp only[go_sem,Cu,Int.reduceLT,Int.reduceBEq];exact qc _ _ ⟨rfl,h1⟩
  have qd:=qB rfl;have ek:=e3 qd;obtain⟨qg,qa,qk,qn,qe,qj,qu,m1,qt⟩:=H7 h1;cases qe;rotate_left
  .simp only[go_sem,Cu,Int.reduceLT,Int.reduceBEq,m1,Au];exact qc _ _ ⟨rfl,h1⟩
  obtain⟨h2,w2⟩:=qt qg qa qk qn true qj;obtain⟨s2,qo⟩:∃ t,t=s.set m (.row [.ptr b 0 0,iV qg,iV qa,.bool qk,.bool qn,.bool true,.bool qj,qu] 61 0 0):=⟨_,rfl⟩;rw[<-qo]at h2 w2;obtain⟨u4,L4,s4,q4,b4,⟨qK,qL,qy,r4⟩,⟨L41,L42⟩,h4,w4⟩:=V1 (ih (k - 1) (by omega)) h2 (by omega) 2;obtain⟨qC,qF,qE,qD,jg⟩:=Aah h4 (.row [iV 8,iV 0,.str [],.str [],.nils,iV 0,iV 0,.str [],.nils,u4,.nils] 68 0 0) (by simp only[Ob.refs,Al,Lt,V.refs,Fd,Cm];exact fun i hi=>Aci (Cp b4.1 i hi));obtain⟨s5,qz⟩:∃ t,t=s4++[Ob.row [iV 8,iV 0,.str [],.str [],.nils,iV 0,iV 0,.str [],.nils,u4,.nils] 68 0 0]:=⟨_,rfl⟩;rw[<-qz]at qC qF qE qD;have h5:=qC;have b5:=N7 b4 qF;obtain⟨qq,qb,qp,qx,qv,qw,qR,m5,qN⟩:=H7 h5;obtain⟨h6,w6⟩:=qN qq qb qp qx false qw;obtain⟨s6,qA⟩:∃ t,t=s5.set m (.row [.ptr b 0 0,iV qq,iV qb,.bool qp,.bool qx,.bool false,.bool qw,qR] 61 0 0):=⟨_,rfl⟩;rw[<-qA]at h6 w6;have b6:=N7 b5 w6;obtain⟨k6,n6⟩:=Hh w6 qD qE;simp only[go_sem,Cu,Int.reduceLT,Int.reduceBEq,m1,Aw];rw[<-qo];simp only[go_sem,ek];refine Ab q4 ?_;simp only[go_sem,qK,qL,qy];rw[<-qz];simp only[go_sem,m5];rw[<-qA];simp only[go_sem,k6,h6.z,qy];exact Hl (op:=8) (line:=0) (nm:=[]) (arg:=[]) (iz:=true) (it:=0) (idx:=[]) (ex:=Xp.zero) (LB:=L4) (LE:=[]) h6 rfl (.inr b6) (.inl ⟨true,0,rfl⟩) (by rfl) fun _ _ _ _=>Hp (by simp) (by simp) (fun _=>rfl) (by simp) (.inr ⟨rfl,rfl⟩) (.inl ⟨rfl,rfl⟩) (.inl ⟨by simp,rfl⟩) (fun h=>by have h:true=false:=h;cases h) (fun _=>rfl) (fun _=>⟨qd,⟨Cv L42 (by omega),L41⟩,⟨by simp,by simp⟩⟩)
 .cases nb
  .simp only[go_sem,Cu,Int.reduceLT,Int.reduceBEq];exact qc _ _ ⟨rfl,h1⟩
  have qd:=qB rfl;have ek:=e3 qd;obtain⟨qg,qa,qk,qn,qe,qj,qu,m1,qt⟩:=H7 h1;cases qe;rotate_left
  .simp only[go_sem,Cu,Int.reduceLT,Int.reduceBEq,m1,Au];exact qc _ _ ⟨rfl,h1⟩
  obtain⟨z,qh⟩:=Sz h1 qI [109];simp only[go_sem,Cu,Int.reduceLT,Int.reduceBEq,m1,Aw];refine Ca qh ?_;cases z;rotate_left
  .simp only[go_sem,Cu,Int.reduceLT,Int.reduceBEq,Au];exact qc _ _ ⟨rfl,h1⟩
  have qJ:=Sf [97] (Fu [120]);simp only[Fu,SL,By,and_self,true_and,if_true]at qJ;simp only[go_sem,Aw];refine Ad (Abk _) (by rfl) ?_;simp only[go_sem];refine Ad qJ (by rfl) ?_;simp only[go_sem,h1.z];exact Hl (op:=4) (line:=0) (nm:=[109]) (arg:=[]) (iz:=true) (it:=0) (idx:=[]) (ex:=Xp.zero) (LB:=[J4 9 [99],J3 [97] (Fu [120])]) (LE:=[]) h1 rfl (.inl ⟨true,1,by simp only[Bb,By,Tw,Aa3];rfl⟩) (.inl ⟨true,0,rfl⟩) (by simp only[Bb,By,Tw,Aa3];rfl) fun _ _ _ _=>Hp (by simp) (by simp) (fun _=>rfl) (by simp) (.inr ⟨rfl,rfl⟩) (.inr ⟨rfl,Gd (by kernel_rfl)⟩) (.inl ⟨by simp,rfl⟩) (fun h=>by have h:true=false:=h;cases h) (fun _=>rfl) (fun _=>⟨qd,⟨by simp,fun y hy=>by simp only[Bj,P9,or_false]at hy;rcases hy with rfl | rfl<;>first | exact Xi (.inl rfl) (Gd (by kernel_rfl)) | exact Agj (Gd (by kernel_rfl)) (A7t (Gd (by kernel_rfl)) 1)⟩,⟨by simp,by simp⟩⟩)
 .cases nb
  .simp only[go_sem,Cu,Int.reduceLT,Int.reduceBEq];exact qc _ _ ⟨rfl,h1⟩
  have qd:=qB rfl;have ek:=e3 qd;obtain⟨z,qh⟩:=Sz h1 qI [109];simp only[go_sem,Cu,Int.reduceLT,Int.reduceBEq];refine Ca qh ?_;cases z;rotate_left
  .simp only[go_sem,Cu,Int.reduceLT,Int.reduceBEq,Au];exact qc _ _ ⟨rfl,h1⟩
  obtain⟨qg,qa,qk,qn,qe,qj,qu,m1,qt⟩:=H7 h1;obtain⟨j,s3,q3,hj,h3,w3,jv⟩:=Ti h1 2;have ej:IntKind.i64.wrap (10+(j:Int))=10+(j:Int):=C7 (by omega);simp only[go_sem,Aw,m1];refine Ab q3 ?_;simp only[go_sem,ej,h3.z];exact Hl (op:=4) (line:=0) (nm:=[109]) (arg:=[]) (iz:=true) (it:=0) (idx:=[]) (ex:=Xp.zero) (LB:=[J4 (10+(j:Int)) [99]]) (LE:=[]) h3 rfl (.inl ⟨true,1,by simp only[Bb,By,Tw];rfl⟩) (.inl ⟨true,0,rfl⟩) (by simp only[Bb,By,Tw];rfl) fun _ _ _ _=>Hp (by simp) (by simp) (fun _=>rfl) (by simp) (.inr ⟨rfl,rfl⟩) (.inr ⟨rfl,Gd (by kernel_rfl)⟩) (.inl ⟨by simp,rfl⟩) (fun h=>by have h:true=false:=h;cases h) (fun _=>rfl) (fun _=>⟨qd,⟨by simp,fun y hy=>by rw[E4.1 hy];exact Xi (by omega) (Gd (by kernel_rfl))⟩,⟨by simp,by simp⟩⟩)
 .obtain⟨qg,qa,qk,qn,qe,qj,qu,m1,qt⟩:=H7 h1;cases qn;rotate_left
  .simp only[go_sem,Cu,Int.reduceLT,Int.reduceBEq,m1,Au];exact qc _ _ ⟨rfl,h1⟩
  cases qj;rotate_left
  .simp only[go_sem,Cu,Int.reduceLT,Int.reduceBEq,m1,Au,Aw];exact qc _ _ ⟨rfl,h1⟩
  cases qk;rotate_left
  .simp only[go_sem,Cu,Int.reduceLT,Int.reduceBEq,m1,Au,Aw];exact qc _ _ ⟨rfl,h1⟩
  obtain⟨h2,w2⟩:=qt qg qa true false qe false;obtain⟨s2,qo⟩:∃ t,t=s.set m (.row [.ptr b 0 0,iV qg,iV qa,.bool true,.bool false,.bool qe,.bool false,qu] 61 0 0):=⟨_,rfl⟩;rw[<-qo]at h2 w2;obtain⟨x,s3,q3,hx,h3,w3,xs⟩:=Q2 h2 1;simp only[go_sem,Cu,Int.reduceLT,Int.reduceBEq,m1,Aw];rw[<-qo];refine Ca q3 ?_;simp only[go_sem,h3.z];exact Hl (op:=14) (line:=0) (nm:=[102]) (arg:=[]) (iz:=true) (it:=0) (idx:=[]) (ex:=x) (LB:=[]) (LE:=[]) h3 rfl (.inl ⟨true,0,rfl⟩) (.inl ⟨true,0,rfl⟩) (by rfl) fun _ _ _ _=>Hp (by simp) (by simp) (fun _=>rfl) (by simp) (.inl ⟨rfl,hx⟩) (.inr ⟨rfl,Gd (by kernel_rfl)⟩) (.inl ⟨by simp,rfl⟩) (fun _=>rfl) (fun _=>rfl) (fun h=>by have h:false=true:=h;cases h)
 .obtain⟨qg,qa,qk,qn,qe,qj,qu,m1,qt⟩:=H7 h1;cases qn;rotate_left
  .simp only[go_sem,Cu,Int.reduceLT,Int.reduceBEq,m1,Au];exact qc _ _ ⟨rfl,h1⟩
  obtain⟨j,s3,q3,hj,h3,w3,jv⟩:=Ti h1 2;simp only[go_sem,Cu,Int.reduceLT,Int.reduceBEq,m1,Aw];refine Ab q3 ?_;by_cases j1:j=1
  .subst j1;simp only[go_sem,Cu,Int.reduceBEq,h3.z];exact Hl (op:=15) (line:=0) (nm:=[97]) (arg:=[102]) (iz:=true) (it:=0) (idx:=[]) (ex:=Xp.zero) (LB:=[]) (LE:=[]) h3 rfl (.inl ⟨true,0,rfl⟩) (.inl ⟨true,0,rfl⟩) (by rfl) fun _ _ _ _=>Hp (by simp) (by simp) (fun _=>rfl) (by simp) (.inr ⟨rfl,rfl⟩) (.inr ⟨rfl,Gd (by kernel_rfl)⟩) (.inr ⟨rfl,Gd (by kernel_rfl)⟩) (fun _=>rfl) (fun _=>rfl) (fun h=>by have h:false=true:=h;cases h)
  .have fj:((j:Int)==1)=false:=by simp;omega
   simp only[go_sem,fj];exact qc _ _ ⟨rfl,h3⟩
def Ajr:∀ (K:Nat),K<=20->∀ k,k<=K->MSt k/\Xz k
 | 0,hK,k,hk=>by
  have h:=Aiw (k:=k) (by omega) fun j hj=>by omega
  exact⟨h,Ajq h⟩
 | K+1,hK,k,hk=>by
  have h:=Aiw (k:=k) (by omega) fun j hj=>(Ajr K (by omega) j (by omega)).2
  exact⟨h,Ajq h⟩
