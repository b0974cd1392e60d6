/- Walks: the maker of programs: its lists. -/
import Derived.Test.YthlbbjcbmojocacGreatDoorIe
set_option linter.all false
namespace Go.Proofs.YthlbbjcbmojocacGreatDoor.KM
open Go
/-! settled objects -/
def A0s(o:Ob):o.shut.refs=o.refs:=by cases o<;>rfl
def Wm:∀ (js:List Nat) (σ:St) (j:Nat),j ∉ js->(σ.freeze js)[j]?=σ[j]?
 | [],_,_,_=>rfl
 | i::js,σ,j,h=>by
  simp only[Bj,not_or]at h;simp only[St.freeze]
  split
  .rw[Wm js _ j h.2,Bh (Ne.symm h.1)]
  .exact Wm js _ j h.2
def Wy:∀ (js:List Nat) (σ:St),Cl σ->Cl (σ.freeze js)
 | [],_,h=>h
 | i::js,σ,h=>by
  simp only[St.freeze]
  split
  .rename_i ob ho;refine Wy js _ (Gc h ?_);rw[A0s];exact h ob (Ge ho)
  .exact Wy js _ h
def Acj{R:V->St->Prop}{f p:Nat}{res:List AR}{thr:Bool}{body:AC}{vs:List V}{σ:St}(hT:TT f=some ⟨p,res,thr,body,none⟩)(hl:vs.length=p)(h:W TT PT [.c body] (Dd 0 vs) σ (Hd fun e' σ1=>∃ v,Cd e' σ1 res=some v/\(Cm v=true/\∀ i∈v.refs,i<σ1.length)/\(σ.length<=σ1.length/\Cl σ1)/\R v σ1)):∃ v σ',Bv TT PT f vs σ v σ'/\R v σ':=by
 obtain⟨e',σ1,hE,v,hr,⟨h1,h2⟩,⟨h3,h4⟩,h5⟩:=h;exact⟨v,σ1,To hT hl ⟨e',σ1,hE,hr,rfl⟩ h2 h1 h3 h4,h5⟩
def A3z{R:V->St->Prop}{f p:Nat}{res:List AR}{body:AC}{vs:List V}{σ:St}(hT:TT f=some ⟨p,res,true,body,none⟩)(hl:vs.length=p)(h:W TT PT [.c body] (Dd 0 vs) σ (Hd fun e' σ1=>∃ cs cs',Cd e' σ1 res=some (.agg cs)/\(cs.all V.cellB=true/\OCs σ1 cs cs'/\cs'.all V.rowB=true)/\(σ.length<=σ1.length/\Cl σ1)/\R (.agg cs') (σ1.freeze (Ah cs)))):∃ v σ',Th TT PT f vs σ v σ'/\R v σ':=by
 obtain⟨e',σ1,hE,cs,cs',hr,⟨h1,h2,h3⟩,⟨h4,h5⟩,h6⟩:=h;have qP:Dl (.agg cs')=true:=h3;exact⟨.agg cs',σ1.freeze (Ah cs),A6u hT hl ⟨e',σ1,hE,.agg cs,Ah cs,hr,h1,Tv h2 _ (fun i hi=>hi),rfl⟩ (Vh qP) (Yy qP) (by rw[Pe];exact h4) (Wy _ _ h5),h6⟩
/-! statements that are made -/
def BK:Nat->Nat
 | 0=>100
 | k+1=>100+4*BK k
def SM(k:Nat)(x:Sp):Prop:=SB k x/\C7 x.row<=BK k
def Asl:∀ {k k':Nat},k<=k'->ZB k<=ZB k'
 | 0,0,_=>Ai _
 | 0,k'+1,_=>by simp[ZB]
 | k+1,k'+1,h=>by
  have:=Asl (k:=k) (k':=k') (by omega);simp only[ZB];omega
def Ais:∀ {k k':Nat},k<=k'->BK k<=BK k'
 | 0,0,_=>Ai _
 | 0,k'+1,_=>by simp[BK]
 | k+1,k'+1,h=>by
  have:=Ais (k:=k) (k':=k') (by omega);simp only[BK];omega
def A8q{k k':Nat}{x:Sp}(hk:k<=k')(h:SM k x):SM k' x:=by
 obtain⟨⟨h1,h2,h3⟩,h4⟩:=h;have:=Asl hk;have:=Ais hk;exact⟨⟨h1,by omega,fun d hd=>Cw (h3 d (by omega)) (Nat.mul_le_mul_left _ (by omega))⟩,by omega⟩
/-! the maker's locks -/
def Auj{σ σ2:St}{m b:Nat}{uH vH:V}{H H':List (List UInt8)}(h:MKr σ m b uH H)(th left:Int)(se tx ao lp:Bool)(hl:σ.length<=σ2.length)(hB:∀ j,j<σ.length->j ∉ uH.refs->σ2[j]?=σ[j]?)(g:GS σ2 1 9 vH (H'.map fun x=>[V.str x]))(hr:∀ j∈vH.refs,j∈uH.refs\/σ.length<=j)(hc:Cl σ2):
  MKr (σ2.set m (.row [.ptr b 0 0,iV th,iV left,.bool se,.bool tx,.bool ao,.bool lp,vH] 97 0 0)) m b vH H'/\FW m σ (σ2.set m (.row [.ptr b 0 0,iV th,iV left,.bool se,.bool tx,.bool ao,.bool lp,vH] 97 0 0)):=by
 have hm:=J4 h;have hb:=Lx h.tape;have hf:=He h;have qf:Ah [.ptr b 0 0,iV th,iV left,.bool se,.bool tx,.bool ao,.bool lp,vH]=b::vH.refs:=by simp[Ah,V.refs]
 have nv:∀ j∈vH.refs,j≠m/\j≠b:=fun j hj=>by
  rcases hr j hj with h2 | h2
  .exact h.hd j h2
  .omega
 have e2:σ2[m]?=σ[m]?:=hB m hm fun e=>(h.hd m e).1 rfl
 have e3:σ2[b]?=σ[b]?:=hB b hb fun e=>(h.hd b e).2 rfl
 refine⟨⟨⟨th,left,se,tx,ao,lp,B5 (by omega)⟩,?_,h.ne,Hm g fun i hi=>Bh (Ne.symm (nv i hi).1),nv,Gc hc fun i hi=>?_⟩,Ajk (τ:=σ2) ⟨hl,fun j hj hn=>?_,fun j hj=>?_⟩ hm fun j hj=>?_⟩
 .obtain⟨z,t,l,a,h1,h2⟩:=h.tape;exact⟨z,t,l,a,by rw[Bh h.ne,e3];exact h1,h2⟩
 .simp only[Ob.refs,qf,Bj]at hi;rcases hi with rfl | hi
  .omega
  .exact Cy g i hi
 .rw[hf]at hn;simp only[Bj,not_or]at hn;exact hB j hj hn.2.2
 .unfold fp at hj ⊢;rw[e2]at hj;exact .inl hj
 .rw[qf]at hj;rw[hf];simp only[Bj]at hj ⊢;rcases hj with rfl | hj
  .exact .inl (.inr (.inl rfl))
  .rcases hr j hj with h2 | h2
   .exact .inl (.inr (.inr h2))
   .exact .inr h2
def OL(σ0 σ:St)(m:Nat)(u:V)(L:List Sp):Prop:=GS σ 11 104 u (L.map Sp.row)/\∀ j∈u.refs,σ0.length<=j/\j ∉ fp σ m
def Avs{σ0 σ τ:St}{m:Nat}{u:V}{L:List Sp}(h:OL σ0 σ m u L)(hw:FW m σ τ):OL σ0 τ m u L:=by
 obtain⟨h1,h2⟩:=h;refine⟨Hm h1 fun i hi=>hw.2.1 i (Cy h1 i hi) (h2 i hi).2,fun j hj=>⟨(h2 j hj).1,fun hm=>?_⟩⟩;have:=Cy h1 j hj;rcases hw.2.2 j hm with h3 | h3
 .exact(h2 j hj).2 h3
 .omega
def Bc7{σ0 σ:St}{m b:Nat}{uH u:V}{H:List (List UInt8)}{L:List Sp}(h:OL σ0 σ m u L)(hk:MKr σ m b uH H)(h0:FW m σ0 σ)(qH:m<σ0.length)(x:Sp)(hb:L.length<=1000000):∃ u' σ',D6 176 (11,104) u (.lst 1 [x.row]) σ=some (u',σ')/\OL σ0 σ' m u' (L++[x])/\MKr σ' m b uH H/\FW m σ0 σ':=by
 obtain⟨h1,h2⟩:=h;have jZ:(L.map Sp.row).length=L.length:=Ap ..;obtain⟨u',σ',e1,g,hl,hB,hr,hc⟩:=V5 (bytes:=176) (row:=x.row) h1 (by omega) (Nf x) (Gu x) (by omega);have hf:=He hk
 have nf:∀ i∈fp σ m,i<σ.length/\i ∉ u.refs:=fun i hi=>by
  refine⟨?_,fun e=>(h2 i e).2 hi⟩;rw[hf]at hi;simp only[Bj]at hi;rcases hi with rfl | rfl | hi
  .exact J4 hk
  .exact Lx hk.tape
  .exact Cy hk.h i hi
 have kp:∀ i∈fp σ m,σ'[i]?=σ[i]?:=fun i hi=>hB i (nf i hi).1 (nf i hi).2
 have hm:σ'[m]?=σ[m]?:=kp m (by rw[hf];simp);have qW:σ'[b]?=σ[b]?:=kp b (by rw[hf];simp);have qS:fp σ' m=fp σ m:=by unfold fp;rw[hm]
 refine⟨u',σ',e1,⟨by rw[Dw];exact g,fun j hj=>?_⟩,Pw hk (hc hk.cl) hm ?_ (fun i hi=>kp i (by rw[hf];simp[hi])),Aud h0 qH hl (fun j hj=>.inr (h2 j hj).1) (fun j hj hn=>hB j hj hn) fun e=>(h2 m e).2 (by rw[hf];simp)⟩
 .rw[qS];rcases hr j hj with h3 | h3
  .exact h2 j h3
  .exact⟨by have:=h0.1;omega,fun e=>by have:=(nf j e).1;omega⟩
 .obtain⟨z,t,l,a,h1,h2⟩:=hk.tape;exact⟨z,t,l,a,by rw[qW];exact h1,h2⟩
def MSt(k:Nat):Prop:=∀ (σ:St) (m b:Nat) (uH:V) (H:List (List UInt8)),MKr σ m b uH H->H.length+k<=100->∃ v σ',Th TT PT 75 [.ptr m 0 0,iV (k:Int)] σ v σ'/\(∃ x:Sp,v=.agg x.row/\SM k x)/\(∃ ql,MKr σ' m b ql H)/\FW m σ σ'
def MSs(k:Nat):Prop:=∀ (σ:St) (m b:Nat) (uH:V) (H:List (List UInt8)),MKr σ m b uH H->H.length+k<=100->∀ n:Nat,n<=1000000->∃ v σ',Bv TT PT 46 [.ptr m 0 0,iV (k:Int),iV (n:Int)] σ v σ'/\∃ (L:List Sp) (ql:V),OL σ σ' m v L/\(∀ x∈L,SM k x)/\L.length<=n/\MKr σ' m b ql H/\FW m σ σ'
def Aod{k:Nat}(hS:MSt k):MSs k:=by
 intro σ m b uH H h hH n hn;have qH:=J4 h;refine Acj T46 rfl ?_;simp only[go_sem];refine Bn (α:=Nat × St × V × V × List Sp) (fun a=>n - a.1) (fun a=>[(0,.ptr m 0 0),(1,iV (k:Int)),(2,iV (n:Int)),(7,a.2.2.1),(8,iV (a.1:Int))]) (fun a=>a.2.1) (fun a=>a.1<=n/\(OL σ a.2.1 m a.2.2.1 a.2.2.2.2/\(∀ x∈a.2.2.2.2,SM k x)/\a.2.2.2.2.length=a.1)/\MKr a.2.1 m b a.2.2.2.1 H/\FW m σ a.2.1) ?_ (0,σ,.nils,uH,[]) ⟨Au _,⟨⟨Zn,by simp[V.refs]⟩,by simp,rfl⟩,h,Ac3 _ _⟩;rintro⟨i,s,u,vH,L⟩ ⟨hi,⟨hO,hL,qi⟩,hk,hw⟩ ih;simp only at hi hO hL qi hk hw ih;obtain⟨_,left,_,_,_,_,m1⟩:=hk.row;have qM:=I9 hO.1;have ji:∃ v,some u=some v/\(Cm v=true/\∀ i∈v.refs,i<s.length)/\(σ.length<=s.length/\Cl s)/\∃ (L:List Sp) (ql:V),OL σ s m v L/\(∀ x∈L,SM k x)/\L.length<=n/\MKr s m b ql H/\FW m σ s:=⟨u,rfl,⟨by cases u<;>simp[V.cellB]at qM<;>rfl,Cy hO.1⟩,⟨hw.1,hk.cl⟩,L,vH,hO,hL,by omega,hk,hw⟩;refine Bl Bg7 ?_;by_cases hc:i<n/\(i=0\/0<left)
 .have f1:((i:Int)<(n:Int))=True:=eq_true (by omega);obtain⟨_,s2,q2,⟨x,rfl,hx⟩,⟨jx,jM⟩,w2⟩:=hS s m b vH H hk hH;have jG:=Avs hO w2;obtain⟨u',s3,ha,jH,jN,w3⟩:=Bc7 jG jM (Fr hw w2) qH x (by omega);have jc:=Gu x;have jU:=Fg x;rw[jU]at q2 jc ha;rcases(show i=0\/(i≠0/\0<left) by omega) with h0 | ⟨h0,hl⟩
  case' inl=>have f2:((i:Int)==0)=true:=by simp[h0]
  case' inr=>have f2:((i:Int)==0)=false:=by simp[h0]
  case' inr=>have f3:((0:Int)<left)=True:=eq_true hl
  case' inl=>simp only[go_sem,m1,f1,f2]
  case' inr=>simp only[go_sem,m1,f1,f2,f3,gt_iff_lt]
  all_goals
   refine Ck q2 ?_;simp only[go_sem,ha,A2 (show i<9223372036854775807 by omega)];refine As (ih (i+1,s3,u',jx,L++[x]) (by simp only;omega) ⟨by simp only;omega,⟨jH,fun y hy=>?_,by simp[qi]⟩,jN,w3⟩) rfl;rcases B8.1 hy with hy | hy
   .exact hL y hy
   .rw[Eo.1 hy];exact hx
 .by_cases h1:i<n
  .have f1:((i:Int)<(n:Int))=True:=eq_true (by omega);have f2:((i:Int)==0)=false:=by simp;omega
   have f3:((0:Int)<left)=False:=eq_false (by omega);simp only[go_sem,m1,f1,f2,f3,gt_iff_lt];exact ji
  .have f1:((i:Int)<(n:Int))=False:=eq_false (by omega);simp only[go_sem,m1,f1];exact ji
def Vc(nm:List UInt8)(x:Xp):Fn TT PT 48 [.str nm,.agg [iV x.op,iV x.n,.str x.nm,SL x.z x.t (x.l.map Xp.row)]] (.agg [iV 1,iV 0,.str nm,.str [],.nils,iV x.op,iV x.n,.str x.nm,SL x.z x.t (x.l.map Xp.row),.nils,.nils]):=by
 have jc:=Du x;rw[Bf x]at jc;refine Bo T48 rfl ?_;simp only[go_sem];exact Gm (by simp only[go_sem])
def Iq{v:V}(h:v.cellB=true):v.cells=[v]/\[v].all V.cellB=true:=⟨by cases v<;>simp[V.cellB]at h<;>rfl,by simp only[Aw,Bi,h];rfl⟩
def A30{σ:St}{m b:Nat}{uH:V}{H:List (List UInt8)}(h:MKr σ m b uH H)(hH:H.length<=1000)(nm:List UInt8):∃ z:Bool,Th TT PT 127 [.ptr m 0 0,.str nm] σ (.bool z) σ:=by
 obtain⟨_,_,_,_,_,_,m1⟩:=h.row;obtain⟨z,hz⟩:=Akj h.h (by omega);have ha:=Wk z 0 H nm (by omega)
 suffices hh:∃ v,Th TT PT 127 [.ptr m 0 0,.str nm] σ v σ/\∃ z,v=.bool z by
  obtain⟨_,h1,z,rfl⟩:=hh;exact⟨z,h1⟩
 refine Auf T127 rfl ?_;simp only[go_sem,m1];refine Avb (.cons (Acv hz (I9 h.h)) (.cons (Jy rfl) .nil)) ha (by rfl) ?_;simp only[go_sem];exact⟨_,rfl,⟨rfl,rfl⟩,⟨[],by simp⟩,_,rfl⟩
structure MW (σ s:St) (m b:Nat) (H:List (List UInt8)):Prop where
 hk:∃ uH,MKr s m b uH H
 fw:FW m σ s
 z:s[σ.length]?=some (.row [iV 0,iV 0,.str [],.str [],.nils,iV 0,iV 0,.str [],.nils,.nils,.nils] 104 0 0)
 n:σ.length ∉ fp s m
 m0:m<σ.length
def Wz{σ s:St}{m b:Nat}{H:List (List UInt8)}(h:MW σ s m b H):σ.length<s.length:=(Ak.1 h.z).1
def V6{σ s s':St}{m b:Nat}{H:List (List UInt8)}{uH:V}(h:MW σ s m b H)(hk:MKr s' m b uH H)(w:FW m s s'):MW σ s' m b H:=by
 obtain⟨k,n⟩:=Ip w h.z h.n;exact⟨⟨_,hk⟩,Fr h.fw w,k,n,h.m0⟩
def Jb{σ s:St}{m b:Nat}{H:List (List UInt8)}(h:MW σ s m b H):∃ (th left:Int) (se tx ao lp:Bool) (uH:V),s[m]?=some (.row [.ptr b 0 0,iV th,iV left,.bool se,.bool tx,.bool ao,.bool lp,uH] 97 0 0) /\
  ∀ (th left:Int) (se tx ao lp:Bool),MW σ (s.set m (.row [.ptr b 0 0,iV th,iV left,.bool se,.bool tx,.bool ao,.bool lp,uH] 97 0 0)) m b H/\FW m s (s.set m (.row [.ptr b 0 0,iV th,iV left,.bool se,.bool tx,.bool ao,.bool lp,uH] 97 0 0)):=by
 obtain⟨uH,hk⟩:=h.hk;obtain⟨th,left,se,tx,ao,lp,hr⟩:=hk.row;refine⟨th,left,se,tx,ao,lp,uH,hr,fun th left se tx ao lp=>?_⟩;obtain⟨h1,h2⟩:=Aui hk th left se tx ao lp;exact⟨V6 h h1 h2,h2⟩
def V7{σ s:St}{m b:Nat}{H:List (List UInt8)}(h:MW σ s m b H)(n:Nat)(hn:n<=1000000000:=by omega):∃ (r:Nat) (s':St),Bv TT PT 45 [.ptr b 0 0,iV (n:Int)] s (iV (r:Int)) s'/\(r<n\/r=0)/\MW σ s' m b H/\FW m s s'/\s'[m]?=s[m]?:=by
 obtain⟨uH,hk⟩:=h.hk;obtain⟨r,s',q,h1,h2,-,h4,h5⟩:=Po hk n n rfl hn;exact⟨r,s',q,h4,V6 h h1 h2,h2,h5⟩
def Tt{σ s:St}{m b:Nat}{H:List (List UInt8)}(h:MW σ s m b H)(d:Nat)(hd:d<=5:=by omega):∃ (x:Xp) (s':St),Th TT PT 124 [.ptr m 0 0,iV (d:Int)] s (.agg [iV x.op,iV x.n,.str x.nm,SL x.z x.t (x.l.map Xp.row)]) s'/\MX d x/\MW σ s' m b H/\FW m s s'/\Dl (.agg [iV x.op,iV x.n,.str x.nm,SL x.z x.t (x.l.map Xp.row)])=true:=by
 obtain⟨uH,hk⟩:=h.hk;obtain⟨_,s',q,⟨x,rfl,hx⟩,h1,h2⟩:=Aqr 5 (by omega) d hd s m b uH H hk;have hs:=Du x;rw[Bf x]at q hs;exact⟨x,s',q,hx,V6 h h1 h2,h2,hs⟩
def Vu{σ s:St}{m b:Nat}{H:List (List UInt8)}(h:MW σ s m b H)(hH:H.length<=1000)(nm:List UInt8):∃ z:Bool,Th TT PT 127 [.ptr m 0 0,.str nm] s (.bool z) s:=by
 obtain⟨uH,hk⟩:=h.hk;exact A30 hk hH nm
def Qn(σ s:St)(m:Nat)(u:V)(L:List Sp):Prop:=GS s 11 104 u (L.map Sp.row)/\∀ j∈u.refs,σ.length<j/\j ∉ fp s m
def P5{σ s s':St}{m:Nat}{u:V}{L:List Sp}(h:Qn σ s m u L)(hw:FW m s s'):Qn σ s' m u L:=by
 obtain⟨h1,h2⟩:=h;refine⟨Hm h1 fun i hi=>hw.2.1 i (Cy h1 i hi) (h2 i hi).2,fun j hj=>⟨(h2 j hj).1,fun hm=>?_⟩⟩;have:=Cy h1 j hj;rcases hw.2.2 j hm with h3 | h3
 .exact(h2 j hj).2 h3
 .omega
def Auk{s:St}{m j:Nat}{X:Ob}(hj:j≠m):fp (s.set j X) m=fp s m:=by
 unfold fp;rw[Bh hj]
def Aul{σ s:St}{m j:Nat}{u:V}{L:List Sp}(X:Ob)(h:Qn σ s m u L)(hj:j ∉ u.refs)(hm:j≠m):Qn σ (s.set j X) m u L:=by
 obtain⟨h1,h2⟩:=h;exact⟨Hm h1 fun i hi=>Bh fun(e:j=i)=>hj (by rw[e];exact hi),fun i hi=>⟨(h2 i hi).1,by rw[Auk hm];exact(h2 i hi).2⟩⟩
def Yl{σ s:St}{m b k:Nat}{H:List (List UInt8)}(hS:MSs k)(h:MW σ s m b H)(hH:H.length+k<=100)(n:Nat)(hn:n<=1000000:=by omega):∃ (u:V) (L:List Sp) (s':St),Bv TT PT 46 [.ptr m 0 0,iV (k:Int),iV (n:Int)] s u s'/\Qn σ s' m u L/\(u.cells=[u]/\[u].all V.cellB=true/\u.cellB=true/\∀ j∈u.refs,s.length<=j)/\((∀ x∈L,SM k x)/\L.length<=n)/\MW σ s' m b H/\FW m s s':=by
 obtain⟨uH,hk⟩:=h.hk;obtain⟨u,s',q,L,ql,hO,hL,qi,h1,h2⟩:=hS s m b uH H hk hH n hn;have hc:=I9 hO.1;have hl:=Wz h;exact⟨u,L,s',q,⟨hO.1,fun j hj=>⟨by have:=(hO.2 j hj).1;omega,(hO.2 j hj).2⟩⟩,⟨(Iq hc).1,(Iq hc).2,hc,fun j hj=>(hO.2 j hj).1⟩,⟨hL,qi⟩,V6 h h1 h2,h2⟩
def MBl(k:Nat):Prop:=∀ (σ:St) (m b:Nat) (uH:V) (H:List (List UInt8)) (nm:List UInt8),MKr σ m b uH H->H.length+1+k<=100->∃ v σ',Bv TT PT 128 [.ptr m 0 0,.str nm,iV (k:Int)] σ v σ'/\∃ (L:List Sp) (ql:V),OL σ σ' m v L/\(∀ x∈L,SM k x)/\L.length<=2/\MKr σ' m b ql H/\FW m σ σ'
def Ack{σ s:St}{m b k:Nat}{H:List (List UInt8)}(hS:MBl k)(h:MW σ s m b H)(hH:H.length+1+k<=100)(nm:List UInt8):∃ (u:V) (L:List Sp) (s':St),Bv TT PT 128 [.ptr m 0 0,.str nm,iV (k:Int)] s u s'/\Qn σ s' m u L/\(u.cells=[u]/\[u].all V.cellB=true/\u.cellB=true/\∀ j∈u.refs,s.length<=j)/\((∀ x∈L,SM k x)/\L.length<=2)/\MW σ s' m b H/\FW m s s':=by
 obtain⟨uH,hk⟩:=h.hk;obtain⟨u,s',q,L,ql,hO,hL,qi,h1,h2⟩:=hS s m b uH H nm hk hH;have hc:=I9 hO.1;have hl:=Wz h;exact⟨u,L,s',q,⟨hO.1,fun j hj=>⟨by have:=(hO.2 j hj).1;omega,(hO.2 j hj).2⟩⟩,⟨(Iq hc).1,(Iq hc).2,hc,fun j hj=>(hO.2 j hj).1⟩,⟨hL,qi⟩,V6 h h1 h2,h2⟩
def Ada{σ s:St}{m b:Nat}{H:List (List UInt8)}(h:MW σ s m b H)(X:Ob)(hX:∀ i∈X.refs,i<s.length+1):MW σ (s++[X]) m b H/\FW m s (s++[X])/\s.length ∉ fp (s++[X]) m/\(s++[X])[s.length]?=some X/\s.length≠m:=by
 obtain⟨uH,hk⟩:=h.hk;obtain⟨h1,h2⟩:=Ac9 hk [X] (I8 hk.cl hX);have hm:=J4 hk;refine⟨V6 h h1 h2,h2,fun hm=>?_,by simp,by omega⟩;rw[He h1,<-He hk]at hm;exact Ad0 (τ:=s) hk (Ai _) hm
def Bc8{σ s:St}{m b j:Nat}{H:List (List UInt8)}(h:MW σ s m b H)(X:Ob)(hj:σ.length<j)(hn:j ∉ fp s m)(hX:∀ i∈X.refs,i<s.length):MW σ (s.set j X) m b H:=by
 obtain⟨uH,hk⟩:=h.hk;rw[He hk]at hn;simp only[Bj,not_or]at hn;refine⟨⟨uH,Pw hk (Gc hk.cl hX) (Bh hn.1) ?_ fun i hi=>Bh fun(e:j=i)=>hn.2.2 (by rw[e];exact hi)⟩,Auc h.fw (by omega) h.m0,by rw[Bh (by omega)];exact h.z,by rw[Auk hn.1];exact h.n,h.m0⟩;obtain⟨z,t,l,a,h1,h2⟩:=hk.tape;exact⟨z,t,l,a,by rw[Bh hn.2.1];exact h1,h2⟩
def Bc9{σ s:St}{m b:Nat}{u:V}{H:List (List UInt8)}{L:List Sp}(h:Qn σ s m u L)(hk:MW σ s m b H)(x:Sp)(hb:L.length<=1000000):∃ u' s',D6 176 (11,104) u (.lst 1 [x.row]) s=some (u',s')/\Qn σ s' m u' (L++[x])/\(u'.cells=[u']/\[u'].all V.cellB=true/\u'.cellB=true)/\MW σ s' m b H:=by
 obtain⟨uH,qG⟩:=hk.hk;obtain⟨h1,h2⟩:=h;obtain⟨u',s',e1,g,hl,hB,hr,hc⟩:=V5 (bytes:=176) (row:=x.row) h1 (by omega) (Nf x) (Gu x) (by rw[Ap];omega);have hf:=He qG
 have nf:∀ i∈fp s m,i<s.length/\i ∉ u.refs:=fun i hi=>by
  refine⟨?_,fun e=>(h2 i e).2 hi⟩;rw[hf]at hi;simp only[Bj]at hi;rcases hi with rfl | rfl | hi
  .exact J4 qG
  .exact Lx qG.tape
  .exact Cy qG.h i hi
 have kp:∀ i∈fp s m,s'[i]?=s[i]?:=fun i hi=>hB i (nf i hi).1 (nf i hi).2
 have hm:s'[m]?=s[m]?:=kp m (by rw[hf];simp);have qW:s'[b]?=s[b]?:=kp b (by rw[hf];simp);have qS:fp s' m=fp s m:=by unfold fp;rw[hm]
 refine⟨u',s',e1,⟨by rw[Dw];exact g,fun j hj=>?_⟩,⟨(Iq (I9 g)).1,(Iq (I9 g)).2,I9 g⟩,⟨uH,Pw qG (hc qG.cl) hm ?_ fun i hi=>kp i (by rw[hf];simp[hi])⟩,Aud hk.fw hk.m0 hl (fun j hj=>.inr (N6 (h2 j hj).1)) (fun j hj hn=>hB j hj hn) fun e=>(h2 m e).2 (by rw[hf];simp),by rw[hB _ (Wz hk) fun e=>by have:=(h2 _ e).1;omega];exact hk.z,by rw[qS];exact hk.n,hk.m0⟩
 .rw[qS];rcases hr j hj with h3 | h3
  .exact h2 j h3
  .exact⟨by have:=Wz hk;omega,fun e=>by have:=(nf j e).1;omega⟩
 .obtain⟨z,t,l,a,h1,h2⟩:=qG.tape;exact⟨z,t,l,a,by rw[qW];exact h1,h2⟩
def BSs(σ s:St)(m:Nat)(u:V)(L:List Sp):Prop:=(∃ z t,u=SL z t (L.map Sp.row))\/Qn σ s m u L
def Avt{σ s:St}{m:Nat}{u:V}{L:List Sp}(h:BSs σ s m u L)(X:Ob):∃ z t,OC (s.set σ.length X) u (SL z t (L.map Sp.row))/\u.cellB=true/\(∀ j∈u.refs,σ.length<j/\j ∉ fp s m/\j<s.length):=by
 rcases h with⟨z,t,rfl⟩ | ⟨h1,h2⟩
 .refine⟨z,t,Ff ?_,?_,by rw[Ng];simp⟩
  .exact Is z t _
  .unfold SL;split<;>rfl
 .have h3:GS (s.set σ.length X) 11 104 u (L.map Sp.row):=Hm h1 fun i hi=>Bh (by have:=(h2 i hi).1;omega)
  obtain⟨z,hz⟩:=Akj h3 (by omega);exact⟨z,0,hz,I9 h1,fun j hj=>⟨(h2 j hj).1,(h2 j hj).2,Cy h1 j hj⟩⟩
set_option maxHeartbeats 1000000 in
def Iv{σ s:St}{m b k:Nat}{H:List (List UInt8)}{e:Env}{uB uE:V}{cs:List V}{op line:Int}{nm arg:List UInt8}{iz:Bool}{it:Nat}{idx:List Xp}{ex:Xp}{LB LE:List Sp}(h:MW σ s m b H)(he:e.get 4=.ptr σ.length 0 0)(hB:BSs σ s m uB LB)(hE:BSs σ s m uE LE)
  (qT:cs=[iV op,iV line,.str nm,.str arg,SL iz it (idx.map Xp.row),iV ex.op,iV ex.n,.str ex.nm,SL ex.z ex.t (ex.l.map Xp.row),uB,uE]) (hS:∀ z t z' t',SM k ⟨op,line,nm,arg,iz,it,idx,ex,z,t,LB,z',t',LE⟩) :
  ∃ cs1 cs',Cd e (s.set σ.length (.row cs 104 0 0)) [.cell 4 11 false]=some (.agg cs1)/\(cs1.all V.cellB=true/\OCs (s.set σ.length (.row cs 104 0 0)) cs1 cs'/\cs'.all V.rowB=true)/\(σ.length<=(s.set σ.length (.row cs 104 0 0)).length/\Cl (s.set σ.length (.row cs 104 0 0))) /\
   ((∃ x:Sp,V.agg cs'=.agg x.row/\SM k x)/\(∃ ql,MKr (St.freeze (s.set σ.length (.row cs 104 0 0)) (Ah cs1)) m b ql H)/\FW m σ (St.freeze (s.set σ.length (.row cs 104 0 0)) (Ah cs1))):=by
 have hl:=Wz h;obtain⟨uH,hk⟩:=h.hk;obtain⟨z1,t1,o1,c1,r1⟩:=Avt hB (.row cs 104 0 0);obtain⟨z2,t2,o2,c2,r2⟩:=Avt hE (.row cs 104 0 0);have jp:V.rowB (SL iz it (idx.map Xp.row))=true:=Is _ _ _;have jq:V.rowB (SL ex.z ex.t (ex.l.map Xp.row))=true:=Is _ _ _
 have qf:Ah cs=uB.refs++uE.refs:=by
  rw[qT];simp only[Ah,Ng,V.refs,Cr,B3]
 have qZ:∀ j∈Ah cs,σ.length<j/\j ∉ fp s m/\j<s.length:=fun j hj=>by
  rw[qf]at hj;rcases B8.1 hj with hj | hj
  .exact r1 j hj
  .exact r2 j hj
 have jl:Cl (s.set σ.length (.row cs 104 0 0)):=Gc hk.cl fun i hi=>(qZ i hi).2.2
 have hn:=h.n;have qU:=He hk;rw[qU]at hn;simp only[Bj,not_or]at hn;have qO:(s.set σ.length (.row cs 104 0 0))[σ.length]?=some (.row cs 104 0 0):=B5 hl
 have ja:∀ j,j∈fp s m->(St.freeze (s.set σ.length (.row cs 104 0 0)) (Ah cs))[j]?=s[j]?:=fun j hj=>by
  rw[Wm _ _ _ fun e=>(qZ j e).2.1 hj,Bh fun(e:σ.length=j)=>h.n (by rw[e];exact hj)]
 have jm:=ja m (by rw[qU];simp);refine⟨cs,[iV op,iV line,.str nm,.str arg,SL iz it (idx.map Xp.row),iV ex.op,iV ex.n,.str ex.nm,SL ex.z ex.t (ex.l.map Xp.row),SL z1 t1 (LB.map Sp.row),SL z2 t2 (LE.map Sp.row)],Ur qO he (by rw[qT];rfl),⟨?_,?_,?_⟩,⟨by rw[Hi];omega,jl⟩,⟨⟨op,line,nm,arg,iz,it,idx,ex,z1,t1,LB,z2,t2,LE⟩,by rw[Fg],hS z1 t1 z2 t2⟩,⟨uH,Pw hk (Wy _ _ jl) jm ?_ fun i hi=>ja i (by rw[qU];simp[hi])⟩,?_⟩
 .rw[qT]
  have a1:V.cellB (SL iz it (idx.map Xp.row))=true:=by unfold SL;split<;>rfl
  have a2:V.cellB (SL ex.z ex.t (ex.l.map Xp.row))=true:=by unfold SL;split<;>rfl
  simp only[Aw,Bi,a1,a2,c1,c2];rfl
 .conv=>arg 2;rw[qT]
  exact .cons (Ff rfl) (.cons (Ff rfl) (.cons (Ff rfl) (.cons (Ff rfl) (.cons (Ff jp) (.cons (Ff rfl) (.cons (Ff rfl) (.cons (Ff rfl) (.cons (Ff jq) (.cons o1 (.cons o2 .nil))))))))))
 .have b1:V.rowB (SL z1 t1 (LB.map Sp.row))=true:=Is _ _ _;have b2:V.rowB (SL z2 t2 (LE.map Sp.row))=true:=Is _ _ _;simp only[Aw,Bi,jp,jq,b1,b2];rfl
 .obtain⟨z,t,l,a,h1,h2⟩:=hk.tape;exact⟨z,t,l,a,by rw[ja b (by rw[qU];simp)];exact h1,h2⟩
 .have hw:=h.fw;refine⟨by rw[Pe,Hi];omega,fun j hj jP=>?_,fun j hj=>?_⟩
  .rw[Wm _ _ _ fun e=>by have:=(qZ j e).1;omega,Bh (by omega)];exact hw.2.1 j hj jP
  .unfold fp at hj;rw[jm]at hj;exact hw.2.2 j hj
def Iy{k:Nat}{x:Sp}(h1:1<=x.op/\x.op<=15)(h2:x.idx.length<=1)(h3:x.op≠1->x.idx=[])(h4:∀ y∈x.idx,MX 0 y)(h5:(Ei x.op=true/\MX 1 x.ex)\/(Ei x.op=false/\x.ex=Xp.zero))(h6:(Gg x.op=true/\x.nm=[])\/(Gg x.op=false/\Lj x.nm))(h7:(x.op≠15/\x.arg=[])\/(x.op=15/\Lj x.arg))
  (h8:B4 x.op=false->x.body=[]) (jj:x.op≠2->x.els=[]) (h9:B4 x.op=true->k≠0/\(x.body.length<=3/\∀ y∈x.body,SM (k - 1) y)/\(x.els.length<=1/\∀ y∈x.els,SM (k - 1) y)):SM k x:=by
 have hv:∀ n:Int,(n=1\/n=2\/n=3\/n=14)->Ei n=true:=by
  rintro n (rfl | rfl | rfl | rfl)<;>rfl
 have e0:EB 0=22:=rfl;have e1:EB 1=54:=rfl;have x0:M6 0=12:=rfl;have x1:M6 1=36:=rfl;refine⟨Big h1 h2 h3 (fun y hy=>⟨(h4 y hy).1,by have:=(h4 y hy).2.1;omega⟩) (fun h=>?_) (fun h=>?_) h6 h7 h8 jj fun h=>?_,?_⟩
 .rcases h5 with⟨-,h5⟩ | ⟨h5,-⟩
  .exact⟨h5.1,by have:=h5.2.1;omega⟩
  .rw[hv _ h]at h5;cases h5
 .rcases h5 with⟨h5,-⟩ | ⟨-,h5⟩
  .rw[h]at h5;cases h5
  .rw[h5];exact⟨rfl,rfl,rfl,rfl⟩
 .obtain⟨a,b,c⟩:=h9 h;exact⟨a,b.1,c.1,fun y hy=>(b.2 y hy).1,fun y hy=>(c.2 y hy).1⟩
 .have hn:x.nm.length<=4:=by
   rcases h6 with⟨-,h⟩ | ⟨-,h⟩
   .rw[h];simp
   .exact h.2
  have ha:x.arg.length<=4:=by
   rcases h7 with⟨-,h⟩ | ⟨-,h⟩
   .rw[h];simp
   .exact h.2
  have hi:C0 (x.idx.map Xp.row)<=12:=by
   rcases hx:x.idx with _ | ⟨y,r⟩
   .simp[C0]
   .rw[hx]at h2 h4;have:r=[]:=Qp.1 (by rw[Am]at h2;omega);subst this;have:=(h4 y (by simp)).2.2;simp[C0];omega
  have he:C7 x.ex.row<=36:=by
   rcases h5 with⟨-,h5⟩ | ⟨-,h5⟩
   .have:=h5.2.2;omega
   .rw[h5,Gr];simp[Xp.zero,C0]
  rw[Mu];cases hb:B4 x.op
  .have jL:x.els=[]:=jj fun e=>by rw[e]at hb;cases hb
   rw[h8 hb,jL];simp only[B7,C0];have:BK 0<=BK k:=Ais (Au _);have:BK 0=100:=rfl;omega
  .obtain⟨hk,⟨l1,b1⟩,⟨l2,b2⟩⟩:=h9 hb
   have qQ:∀ {l:List Sp},(∀ y∈l,SM (k - 1) y)->C0 (l.map Sp.row)<=l.length*BK (k - 1):=by
    intro l
    induction l with
    | nil=>intro _;simp[C0]
    | cons y l ih=>
     intro h;have h1:=(h y (by simp)).2;have h2:=ih fun z hz=>h z (by simp[hz])
     rw[Bb,C0,Am,Ep];omega
   have g1:=qQ b1;have g2:=qQ b2;have g3:x.body.length*BK (k - 1)<=3*BK (k - 1):=Fp _ l1;have g4:x.els.length*BK (k - 1)<=1*BK (k - 1):=Fp _ l2
   have g5:BK k=100+4*BK (k - 1):=by
    cases k with
    | zero=>exact absurd rfl hk
    | succ k=>rfl
   omega
set_option maxHeartbeats 2000000 in
def Ab0{k:Nat}(hS:MSs k):MBl k:=by
 intro σ m b uH H nm h hH;have qH:=J4 h;obtain⟨th,left,se,tx,ao,lp,m1⟩:=h.row;have n1:(H.map fun x=>[V.str x]).length=H.length:=Ap ..;obtain⟨u',s2,e1,g,hl,hB,hr,hc⟩:=V5 (bytes:=16) (row:=[.str nm]) h.h (by omega) rfl rfl (by rw[n1];omega);have g':GS s2 1 9 u' ((H++[nm]).map fun x=>[V.str x]):=by rw[Dw];exact g
 obtain⟨h2,w2⟩:=Auj h th left se tx ao lp hl hB g' hr (hc h.cl);have m2:s2[m]?=some (.row [.ptr b 0 0,iV th,iV left,.bool se,.bool tx,.bool ao,.bool lp,uH] 97 0 0):=(hB m qH fun e=>(h.hd m e).1 rfl).trans m1;obtain⟨jJ,jI⟩:=Iq (I9 g);obtain⟨s3,e3⟩:∃ t,t=s2.set m (.row [.ptr b 0 0,iV th,iV left,.bool se,.bool tx,.bool ao,.bool lp,u'] 97 0 0):=⟨_,rfl⟩;rw[<-e3]at h2 w2;have m3:s3[m]?=some (.row [.ptr b 0 0,iV th,iV left,.bool se,.bool tx,.bool ao,.bool lp,u'] 97 0 0):=by rw[e3];exact B5 (by omega)
 obtain⟨r,s4,q4,h4,w4,l4,r4,kc⟩:=Po h2 2 2 rfl (by omega);have e4:IntKind.i64.wrap (1+(r:Int))=((1+r:Nat):Int):=by rw[Ch (by omega)];omega
 obtain⟨v,s5,q5,L,ki,hO,hL,hn,h5,w5⟩:=hS s4 m b u' (H++[nm]) h4 (by rw[Al,Hw];omega) (1+r) (by omega);have jK:=I9 hO.1;obtain⟨qq,qb,qp,qx,qv,qw,m5⟩:=h5.row;have g5:=h5.h;rw[Dw,Bb,B7]at g5;obtain⟨u6,jo,g6,jQ⟩:=Aub g5;rw[n1]at jo;obtain⟨qY,qX⟩:=Iq (I9 g6);obtain⟨h6,w6⟩:=Auj (H':=H) h5 qq qb qp qx qv qw (Ai _) (fun _ _ _=>rfl) g6 (fun j hj=>.inl (by rw[<-jQ];exact hj)) h5.cl;have qV:=Avs hO w6;have jy:=Fr w2 (Fr w4 (Fr w5 w6));have l5:=Zo h5.h;rw[Ap,Al,Hw]at l5;have e5:IntKind.i64.wrap (((H.length+1:Nat):Int) - 1)=(H.length:Int):=by rw[Ch (by omega)];omega
 have jk:OL σ (s5.set m (.row [.ptr b 0 0,iV qq,iV qb,.bool qp,.bool qx,.bool qv,.bool qw,u6] 97 0 0)) m v L:=⟨qV.1,fun j hj=>⟨by have:=(qV.2 j hj).1;have:=w2.1;have:=w4.1;omega,(qV.2 j hj).2⟩⟩;refine Acj T128 rfl ?_;simp only[go_sem,m1,e1,m2,jJ,jI];rw[<-e3];simp only[go_sem,m3];refine Ac q4 ?_;simp only[go_sem,e4];refine Ac q5 ?_;simp only[go_sem];refine Ag (by kernel_rfl) ?_;simp only[go_sem,m5,l5,e5,jo,qY,qX];refine Ba ?_;simp only[go_sem];exact⟨v,rfl,⟨by cases v<;>simp[V.cellB]at jK<;>rfl,Cy jk.1⟩,⟨jy.1,h6.cl⟩,L,u6,jk,hL,by omega,h6,jy⟩
def Ha{l:List UInt8}(h:(Cc l&&decide (l.length<=4))=true):Lj l:=by
 simp only[Af,decide_eq_true_eq]at h;exact h
def Gn(nm:List UInt8):Xp:=⟨2,0,nm,true,0,[]⟩
def F9(n:Int):Xp:=⟨1,n,[],true,0,[]⟩
def L9(op:Int)(nm:List UInt8)(n:Int):Xp:=⟨op,0,[],true,1,[Gn nm,F9 n]⟩
def Awy(op:Int)(nm:List UInt8)(n:Int):Fn TT PT 125 [iV op,.agg [iV 2,iV 0,.str nm,.nils],.agg [iV 1,iV n,.str [],.nils]] (.agg [iV op,iV 0,.str [],.lst 1 [[iV 2,iV 0,.str nm,.nils],[iV 1,iV n,.str [],.nils]]]):=by
 have h:=Asd op (Gn nm) (F9 n);rw[Bf ⟨op,0,[],true,1,[Gn nm,F9 n]⟩]at h;simp only[Bb,B7]at h;rw[Bf (Gn nm),Bf (F9 n)]at h;exact h
def Ajm(op:Int)(nm:List UInt8)(n:Int):(L9 op nm n).l.map Xp.row=[[iV 2,iV 0,.str nm,.nils],[iV 1,iV n,.str [],.nils]]:=by
 unfold L9;simp only[Bb,B7];rw[Bf (Gn nm),Bf (F9 n)];rfl
def Bim{nm:List UInt8}(h:Lj nm)(d:Nat):MX d (Gn nm):=by
 refine⟨.name h.1,?_,?_⟩
 .rw[show(Gn nm).txt=nm by unfold Gn;rw[Fq];rfl];have:=Aek d;have:=h.2;omega
 .unfold Gn;rw[Gr];have:=Ad2 d;have:=h.2;simp[C0];omega
def Avu{op:Int}(ho:6<=op/\op<=18):MX 1 (L9 op [98] 2)/\MX 1 (L9 op [98] 1):=by
 have jt:∀ n:Int,(n=1\/n=2)->MX 1 (L9 op [98] n):=by
  intro n hn;have hx:ShE (Gn [98]):=.name (by kernel_rfl);have hy:ShE (F9 n):=.num (by omega);have t1:(Gn [98]).txt=[98]:=by unfold Gn;rw[Fq];rfl
  have t2:(F9 n).txt.length=1:=by
   rcases hn with rfl | rfl<;>(unfold F9;rw[Fq];rfl)
  refine⟨.bin ho hx hy,?_,?_⟩
  .unfold L9;rw[Fq];have h2:=(Nh ((Gn [98]).op,(Gn [98]).txt) (Ho op)).2;have jF:=(Nh ((F9 n).op,(F9 n).txt) (Bw op+1)).2;simp only at h2 jF;have h3:(Cs op).length<=2:=Asf _
   have h0:Ed op 0 [] [((Gn [98]).op,(Gn [98]).txt),((F9 n).op,(F9 n).txt)]=D7 ((Gn [98]).op,(Gn [98]).txt) (Ho op)++32::(Cs op++32::D7 ((F9 n).op,(F9 n).txt) (Bw op+1)):=by
    unfold Ed;rw[if_neg (by omega),if_neg (by omega)]
   have e1:EB 1=54:=rfl;have t3:(Gn [98]).txt.length=1:=by rw[t1];rfl
   simp only[Bb,B7,h0,Al,Am];omega
  .have x1:M6 1=36:=rfl;rw[Gr];unfold L9;simp only[Bb,B7,C0,C9];rw[Gr,Gr,x1];unfold Gn F9;simp[C0]
 exact⟨jt 2 (.inr rfl),jt 1 (.inl rfl)⟩
def Ma(nm:List UInt8)(x:Xp):Sp:=⟨1,0,nm,[],true,0,[],x,true,0,[],true,0,[]⟩
def Ad3(nm:List UInt8)(x:Xp):(Ma nm x).row=[iV 1,iV 0,.str nm,.str [],.nils,iV x.op,iV x.n,.str x.nm,SL x.z x.t (x.l.map Xp.row),.nils,.nils]:=by
 rw[Fg];rfl
def Ajn{k:Nat}{nm:List UInt8}{x:Xp}(hn:Lj nm)(hx:MX 1 x)(z:Bool)(t:Nat)(z':Bool)(t':Nat):SM k ⟨1,0,nm,[],true,0,[],x,z,t,[],z',t',[]⟩:=
 Iy (by simp) (by simp) (fun h=>absurd rfl h) (by simp) (.inl ⟨rfl,hx⟩) (.inr ⟨rfl,hn⟩) (.inl ⟨by simp,rfl⟩) (fun _=>rfl) (fun _=>rfl) (fun h=>by have h:false=true:=h;cases h)
def Akl{k:Nat}{nm:List UInt8}{x:Xp}(hn:Lj nm)(hx:MX 1 x):SM k (Ma nm x):=
 Iy (by simp[Ma]) (by simp[Ma]) (fun h=>absurd rfl h) (by simp[Ma]) (.inl ⟨rfl,hx⟩) (.inr ⟨rfl,hn⟩) (.inl ⟨by simp[Ma],rfl⟩) (fun _=>rfl) (fun _=>rfl) (fun h=>by have h:false=true:=h;cases h)
def Mb(op:Int)(nm:List UInt8):Sp:=⟨op,0,nm,[],true,0,[],Xp.zero,true,0,[],true,0,[]⟩
def Wn(op:Int)(nm:List UInt8):(Mb op nm).row=[iV op,iV 0,.str nm,.str [],.nils,iV 0,iV 0,.str [],.nils,.nils,.nils]:=by
 rw[Fg];rfl
def Z6{k:Nat}{op:Int}{nm:List UInt8}(ho:op=9\/op=10\/op=11\/op=12\/op=13)(hn:Lj nm):SM k (Mb op nm):=by
 rcases ho with rfl | rfl | rfl | rfl | rfl
 all_goals exact Iy (by simp[Mb]) (by simp[Mb]) (fun _=>rfl) (by simp[Mb]) (.inr ⟨rfl,rfl⟩) (.inr ⟨rfl,hn⟩) (.inl ⟨by simp[Mb],rfl⟩) (fun _=>rfl) (fun _=>rfl) (fun h=>by have h:false=true:=h;cases h)
set_option maxRecDepth 20000 in
set_option maxHeartbeats 16000000 in
def Am6{k:Nat}(hk:k<=20)(ih:∀ j,j<k->MSs j):MSt k:=by
 intro σ m b uH H h hH;have qH:=J4 h
 suffices hh:∃ v σ',Th TT PT 75 [.ptr m 0 0,iV (k:Int)] σ v σ'/\((∃ x:Sp,v=.agg x.row/\SM k x)/\(∃ ql,MKr σ' m b ql H)/\FW m σ σ') from hh
 refine A3z T75 rfl ?_;have e3:k≠0->IntKind.i64.wrap ((k:Int) - 1)=((k - 1:Nat):Int):=fun h0=>by rw[Ch (by omega)];omega
 refine H7 (fun e s=>e=[(0,.ptr m 0 0),(1,iV (k:Int)),(4,.ptr σ.length 0 0)]/\MW σ s m b H) ?_ ?_
 .intro k' qc;simp only[go_sem];obtain⟨a1,a2⟩:=Ac9 h [.row [iV 0,iV 0,.str [],.str [],.nils,iV 0,iV 0,.str [],.nils,.nils,.nils] 104 0 0] (Iu h.cl rfl);exact qc _ _ ⟨rfl,⟨_,a1⟩,a2,by simp,fun hm=>by rw[He a1,<-He h]at hm;exact Ad0 (τ:=σ) h (Ai _) hm,qH⟩
 clear h uH;rintro e s ⟨rfl,h1⟩;refine H7 (fun e s=>e=[(0,.ptr m 0 0),(1,iV (k:Int)),(4,.ptr σ.length 0 0)]/\MW σ s m b H) ?_ ?_
 .intro k' qc;obtain⟨th,left,se,tx,ao,lp,vH,m1,ho⟩:=Jb h1;simp only[go_sem,m1];exact qc _ _ ⟨rfl,(ho _ _ _ _ _ _).1⟩
 clear h1 s;rintro e s ⟨rfl,h1⟩;refine H7 (fun e s=>∃ r:Nat,r<18/\e=[(0,.ptr m 0 0),(1,iV (k:Int)),(4,.ptr σ.length 0 0),(5,iV (r:Int))]/\MW σ s m b H) ?_ ?_
 .intro k' qc;obtain⟨th,left,se,tx,ao,lp,vH,m1,-⟩:=Jb h1;obtain⟨r,s2,q,hr,h2,w2,mm⟩:=V7 h1 18;simp only[go_sem,m1];refine Ac q ?_;simp only[go_sem];exact qc _ _ ⟨r,by omega,rfl,h2⟩
 clear h1 s;rintro e s ⟨r,hr,rfl,h1⟩;refine H7 (fun e s=>∃ nb:Bool,(nb=true->k≠0)/\e=[(0,.ptr m 0 0),(1,iV (k:Int)),(4,.ptr σ.length 0 0),(5,iV (r:Int)),(6,.bool nb)]/\MW σ s m b H) ?_ ?_
 .intro k' qc;obtain⟨th,left,se,tx,ao,lp,vH,m1,-⟩:=Jb h1;by_cases qd:k=0
  .have f1:((0:Int)<(k:Int))=False:=eq_false (by omega);simp only[go_sem,gt_iff_lt,f1];exact qc _ _ ⟨false,(fun h=>by cases h),rfl,h1⟩
  have f1:((0:Int)<(k:Int))=True:=eq_true (by omega);by_cases hl:0<left
  .have f2:((0:Int)<left)=True:=eq_true hl;cases tx
   .simp only[go_sem,gt_iff_lt,f1,f2,m1,A1];exact qc _ _ ⟨true,fun _=>qd,rfl,h1⟩
   .simp only[go_sem,gt_iff_lt,f1,f2,m1,Ay];exact qc _ _ ⟨false,(fun h=>by cases h),rfl,h1⟩
  .have f2:((0:Int)<left)=False:=eq_false hl;simp only[go_sem,gt_iff_lt,f1,f2,m1];exact qc _ _ ⟨false,(fun h=>by cases h),rfl,h1⟩
 clear h1 s;rintro e s ⟨nb,qB,rfl,h1⟩;have qI:H.length<=1000:=by omega
 refine H7 (fun e s=>e=[(0,.ptr m 0 0),(1,iV (k:Int)),(4,.ptr σ.length 0 0)]/\MW σ s m b H) ?_ ?_;rotate_left
 .clear h1 s;rintro e s ⟨rfl,h1⟩;obtain⟨x,s2,q2,hx,h2,w2,xs⟩:=Tt h1 1;simp only[go_sem];refine Ck q2 ?_;simp only[go_sem];refine Ad (Vc [120] x) (by simp only[go_sem]) ?_;simp only[go_sem,h2.z];exact Iv (op:=1) (line:=0) (nm:=[120]) (arg:=[]) (iz:=true) (it:=0) (idx:=[]) (ex:=x) (LB:=[]) (LE:=[]) h2 rfl (.inl ⟨true,0,rfl⟩) (.inl ⟨true,0,rfl⟩) (by rfl) fun _ _ _ _=>Ajn (Ha (by kernel_rfl)) hx _ _ _ _
 intro k' qc;rcases(show r<4\/r=4\/r=5\/r=6\/r=7\/r=8\/r=9\/r=10\/r=11\/r=12\/r=13\/r=14\/r=15\/r=16\/r=17 by omega) with h4 | rfl | rfl | rfl | rfl | rfl | rfl | rfl | rfl | rfl | rfl | rfl | rfl | rfl | rfl
 .obtain⟨nm,hn,jb⟩:=Yj [[120],[121],[120],[118]] (by kernel_rfl) (j:=r) (by simp;omega);simp only[Bb,B7]at hn;have f1:((r:Int)<4)=True:=eq_true (by omega);obtain⟨x,s2,q2,hx,h2,w2,xs⟩:=Tt h1 1;simp only[go_sem,f1];refine Ag (by kernel_rfl) ?_;simp only[go_sem,hn];refine Hh (Ad1 q2) ?_;simp only[go_sem];refine Bk (Vc nm x) (by simp only[go_sem,xs]) ?_;simp only[go_sem,h2.z];refine Ba ?_;simp only[go_sem];exact Iv (op:=1) (line:=0) (nm:=nm) (arg:=[]) (iz:=true) (it:=0) (idx:=[]) (ex:=x) (LB:=[]) (LE:=[]) h2 rfl (.inl ⟨true,0,rfl⟩) (.inl ⟨true,0,rfl⟩) (by rfl) fun _ _ _ _=>Ajn jb hx _ _ _ _
 .obtain⟨th,left,se,tx,ao,lp,vH,m1,-⟩:=Jb h1;obtain⟨j,s2,q2,hj,h2,w2,kb⟩:=V7 h1 2;obtain⟨nm,hn,jb⟩:=Yj [[97],[98]] (by kernel_rfl) (j:=j) (by simp;omega);simp only[Bb,B7]at hn;obtain⟨x,s3,q3,hx,h3,w3,xs⟩:=Tt h2 1;have jW:Bv TT PT 45 [.ptr b 0 0,iV 2] s (iV (j:Int)) s2:=q2;simp only[go_sem,C6,Int.reduceLT,Int.reduceBEq];refine Ag (by kernel_rfl) ?_;simp only[go_sem,m1];refine Hh jW ?_;simp only[go_sem,hn];refine wgR ?_;simp only[go_sem];have jX:Th TT PT 124 [.ptr m 0 0,iV 1] s2 (.agg [iV x.op,iV x.n,.str x.nm,SL x.z x.t (x.l.map Xp.row)]) s3:=q3;refine Hh (Ad1 jX) ?_;simp only[go_sem];refine Bk (Vc nm x) (by simp only[go_sem,xs]) ?_;simp only[go_sem,h3.z];refine Ba ?_;simp only[go_sem];exact Iv (op:=1) (line:=0) (nm:=nm) (arg:=[]) (iz:=true) (it:=0) (idx:=[]) (ex:=x) (LB:=[]) (LE:=[]) h3 rfl (.inl ⟨true,0,rfl⟩) (.inl ⟨true,0,rfl⟩) (by rfl) fun _ _ _ _=>Ajn jb hx _ _ _ _
 .obtain⟨y,s2,q2,hy,h2,w2,ys⟩:=Tt h1 0;obtain⟨x,s3,q3,hx,h3,w3,xs⟩:=Tt h2 1;have jV:=Bf y;simp only[go_sem,C6,Int.reduceLT,Int.reduceBEq];refine Ck q2 ?_;simp only[go_sem];refine Ck q3 ?_;simp only[go_sem,h3.z];exact Iv (op:=1) (line:=0) (nm:=[113]) (arg:=[]) (iz:=true) (it:=1) (idx:=[y]) (ex:=x) (LB:=[]) (LE:=[]) h3 rfl (.inl ⟨true,0,rfl⟩) (.inl ⟨true,0,rfl⟩) (by simp only[Bb,B7,jV];rfl) fun _ _ _ _=>Iy (by simp) (by simp) (fun h=>absurd rfl h) (by simp;exact hy) (.inl ⟨rfl,hx⟩) (.inr ⟨rfl,Ha (by kernel_rfl)⟩) (.inl ⟨by simp,rfl⟩) (fun _=>rfl) (fun _=>rfl) (fun h=>by have h:false=true:=h;cases h)
 .by_cases qd:k=0
  .have f1:((0:Int)<(k:Int))=False:=eq_false (by omega);simp only[go_sem,C6,Int.reduceLT,Int.reduceBEq,gt_iff_lt,f1];exact qc _ _ ⟨rfl,h1⟩
  have f1:((0:Int)<(k:Int))=True:=eq_true (by omega);have ek:=e3 qd;obtain⟨x,s2,q2,hx,h2,w2,xs⟩:=Tt h1 1;obtain⟨u3,L3,s3,q3,b3,⟨qr,qs,qm,r3⟩,⟨L31,L32⟩,h3,w3⟩:=Yl (ih (k - 1) (by omega)) h2 (by omega) 1;obtain⟨jn,jz,jw,jd,jf⟩:=Ada h3 (.row [iV 2,iV 0,.str [],.str [],.nils,iV x.op,iV x.n,.str x.nm,SL x.z x.t (x.l.map Xp.row),u3,.nils] 104 0 0) (by simp only[Ob.refs,Ah,Ng,V.refs,Cr,B3];exact fun i hi=>Qr (Cy b3.1 i hi));obtain⟨s4,jh⟩:∃ t,t=s3++[Ob.row [iV 2,iV 0,.str [],.str [],.nils,iV x.op,iV x.n,.str x.nm,SL x.z x.t (x.l.map Xp.row),u3,.nils] 104 0 0]:=⟨_,rfl⟩;rw[<-jh]at jn jz jw jd;have h4:=jn;have b4:=P5 b3 jz;obtain⟨th,left,se,tx,ao,lp,vH,m4,-⟩:=Jb h4;obtain⟨j,s5,q5,hj,h5,w5,ke⟩:=V7 h4 2;have b5:=P5 b4 w5;obtain⟨k5,n5⟩:=Ip w5 jd jw;simp only[go_sem,C6,Int.reduceLT,Int.reduceBEq,gt_iff_lt,f1];refine Ck q2 ?_;simp only[go_sem,ek];refine Ac q3 ?_;simp only[go_sem,qr,qs,qm];rw[<-jh];simp only[go_sem,m4];refine Ac q5 ?_;by_cases j1:j=1
  .subst j1;obtain⟨u6,L6,s6,q6,b6,⟨jC,jD,jE,r6⟩,⟨L61,L62⟩,h6,w6⟩:=Yl (ih (k - 1) (by omega)) h5 (by omega) 1;obtain⟨k6,n6⟩:=Ip w6 k5 n5;have je:=P5 b5 w6;have jR:σ.length<s3.length:=Wz h3;have jO:s3.length<s6.length:=(Ak.1 k6).1;have jS:s3.length ∉ u3.refs:=fun e=>by have:=Cy b3.1 _ e;omega
   have jT:s3.length ∉ u6.refs:=fun e=>by
    have:=r6 _ e;have:=w5.1;have:=(Ak.1 jd).1;omega
   have h7:=Bc8 h6 (.row [iV 2,iV 0,.str [],.str [],.nils,iV x.op,iV x.n,.str x.nm,SL x.z x.t (x.l.map Xp.row),u3,u6] 104 0 0) jR n6 (by
    simp only[Ob.refs,Ah,Ng,V.refs,Cr,B3];intro i hi;rcases B8.1 hi with hi | hi
    .exact Cy je.1 i hi
    .exact Cy b6.1 i hi)
   have k7:(s6.set s3.length (.row [iV 2,iV 0,.str [],.str [],.nils,iV x.op,iV x.n,.str x.nm,SL x.z x.t (x.l.map Xp.row),u3,u6] 104 0 0))[s3.length]?=some (.row [iV 2,iV 0,.str [],.str [],.nils,iV x.op,iV x.n,.str x.nm,SL x.z x.t (x.l.map Xp.row),u3,u6] 104 0 0):=B5 jO;have z7:=h7.z;have jA:=Aul (.row [iV 2,iV 0,.str [],.str [],.nils,iV x.op,iV x.n,.str x.nm,SL x.z x.t (x.l.map Xp.row),u3,u6] 104 0 0) je jS jf;have jB:=Aul (.row [iV 2,iV 0,.str [],.str [],.nils,iV x.op,iV x.n,.str x.nm,SL x.z x.t (x.l.map Xp.row),u3,u6] 104 0 0) b6 jT jf;simp only[go_sem,C6,Int.reduceBEq,ek];refine Ac q6 ?_;simp only[go_sem,k6,jC,jD,jE,qm,k7,z7];exact Iv (op:=2) (line:=0) (nm:=[]) (arg:=[]) (iz:=true) (it:=0) (idx:=[]) (ex:=x) (LB:=L3) (LE:=L6) h7 rfl (.inr jA) (.inr jB) (by rfl) fun _ _ _ _=>Iy (by simp) (by simp) (fun _=>rfl) (by simp) (.inl ⟨rfl,hx⟩) (.inl ⟨rfl,rfl⟩) (.inl ⟨by simp,rfl⟩) (fun h=>by have h:true=false:=h;cases h) (fun h=>absurd rfl h) (fun _=>⟨qd,⟨Cw L32 (by omega),L31⟩,⟨L62,L61⟩⟩)
  .have fj:((j:Int)==1)=false:=by simp;omega
   simp only[go_sem,fj,k5,h5.z,qm];exact Iv (op:=2) (line:=0) (nm:=[]) (arg:=[]) (iz:=true) (it:=0) (idx:=[]) (ex:=x) (LB:=L3) (LE:=[]) h5 rfl (.inr b5) (.inl ⟨true,0,rfl⟩) (by rfl) fun _ _ _ _=>Iy (by simp) (by simp) (fun _=>rfl) (by simp) (.inl ⟨rfl,hx⟩) (.inl ⟨rfl,rfl⟩) (.inl ⟨by simp,rfl⟩) (fun h=>by have h:true=false:=h;cases h) (fun h=>absurd rfl h) (fun _=>⟨qd,⟨Cw L32 (by omega),L31⟩,⟨by simp,by simp⟩⟩)
 .by_cases qd:k=0
  .have f1:((0:Int)<(k:Int))=False:=eq_false (by omega);simp only[go_sem,C6,Int.reduceLT,Int.reduceBEq,gt_iff_lt,f1];exact qc _ _ ⟨rfl,h1⟩
  have f1:((0:Int)<(k:Int))=True:=eq_true (by omega);have ek:=e3 qd;obtain⟨qg,qa,qk,qn,qe,qj,qu,m1,qt⟩:=Jb h1;obtain⟨h2,w2⟩:=qt qg qa qk qn qe true;obtain⟨s2,qo⟩:∃ t,t=s.set m (.row [.ptr b 0 0,iV qg,iV qa,.bool qk,.bool qn,.bool qe,.bool true,qu] 97 0 0):=⟨_,rfl⟩;rw[<-qo]at h2 w2;obtain⟨u3,L3,s3,q3,b3,⟨qr,qs,qm,r3⟩,⟨L31,L32⟩,h3,w3⟩:=Yl (ih (k - 1) (by omega)) h2 (by omega) 1;obtain⟨u4,s4,ha,b4,⟨qK,qL,qy⟩,h4⟩:=Bc9 b3 h3 (Ma [98] (L9 6 [98] 1)) (by omega);rw[Ad3,Ajm]at ha;simp only[L9,SL,reduceCtorEq,and_false,true_and,if_false]at ha;have qJ:=Vc [98] (L9 6 [98] 1);rw[Ajm]at qJ;simp only[L9,SL,reduceCtorEq,and_false,true_and,if_false]at qJ;obtain⟨qC,qF,qE,qD,jg⟩:=Ada h4 (.row [iV 3,iV 0,.str [],.str [],.nils,iV 13,iV 0,.str [],.lst 1 [[iV 2,iV 0,.str [98],.nils],[iV 1,iV 2,.str [],.nils]],u4,.nils] 104 0 0) (by simp only[Ob.refs,Ah,Ng,V.refs,Cr,B3];exact fun i hi=>Qr (Cy b4.1 i hi));obtain⟨s5,qz⟩:∃ t,t=s4++[Ob.row [iV 3,iV 0,.str [],.str [],.nils,iV 13,iV 0,.str [],.lst 1 [[iV 2,iV 0,.str [98],.nils],[iV 1,iV 2,.str [],.nils]],u4,.nils] 104 0 0]:=⟨_,rfl⟩;rw[<-qz]at qC qF qE qD;have h5:=qC;have b5:=P5 b4 qF;obtain⟨qq,qb,qp,qx,qv,qw,qR,m5,qN⟩:=Jb h5;obtain⟨h6,w6⟩:=qN qq qb qp qx qv qj;obtain⟨s6,qA⟩:∃ t,t=s5.set m (.row [.ptr b 0 0,iV qq,iV qb,.bool qp,.bool qx,.bool qv,.bool qj,qR] 97 0 0):=⟨_,rfl⟩;rw[<-qA]at h6 w6;have b6:=P5 b5 w6;obtain⟨k6,n6⟩:=Ip w6 qD qE;simp only[go_sem,C6,Int.reduceLT,Int.reduceBEq,gt_iff_lt,f1,m1];rw[<-qo];refine Ad (Aen _) (by rfl) ?_;simp only[go_sem];refine Ad (Afc _) (by rfl) ?_;simp only[go_sem];refine Ad (Awy _ _ _) (by rfl) ?_;simp only[go_sem,ek];refine Ac q3 ?_;simp only[go_sem];refine Ad (Aen _) (by rfl) ?_;simp only[go_sem];refine Ad (Afc _) (by rfl) ?_;simp only[go_sem];refine Ad (Awy _ _ _) (by rfl) ?_;simp only[go_sem];refine Ad qJ (by rfl) ?_;simp only[go_sem,ha,qK,qL,qy];rw[<-qz];simp only[go_sem,m5];rw[<-qA];simp only[go_sem,k6,h6.z,qy]
  exact Iv (op:=3) (line:=0) (nm:=[]) (arg:=[]) (iz:=true) (it:=0) (idx:=[]) (ex:=L9 13 [98] 2) (LB:=(L3++[Ma [98] (L9 6 [98] 1)])) (LE:=[]) h6 rfl (.inr b6) (.inl ⟨true,0,rfl⟩) (by rw[Ajm];rfl) fun _ _ _ _=>Iy (by simp) (by simp) (fun _=>rfl) (by simp) (.inl ⟨rfl,(Avu (by omega)).1⟩) (.inl ⟨rfl,rfl⟩) (.inl ⟨by simp,rfl⟩) (fun h=>by have h:true=false:=h;cases h) (fun _=>rfl) (fun _=>⟨qd,⟨Cw (Agd Al) (by rw[Hw];omega),fun y hy=>(B8.1 hy).elim (L31 y) fun hy=>by rw[Eo.1 hy];exact Akl (Ha (by kernel_rfl)) (Avu (by omega)).2⟩,⟨by simp,by simp⟩⟩)
 .cases nb
  .simp only[go_sem,C6,Int.reduceLT,Int.reduceBEq];exact qc _ _ ⟨rfl,h1⟩
  have qd:=qB rfl;have ek:=e3 qd;obtain⟨z,qh⟩:=Vu h1 qI [109];simp only[go_sem,C6,Int.reduceLT,Int.reduceBEq,Int.reduceSub];refine Ck qh ?_;cases z;rotate_left
  .simp only[go_sem,C6,Int.reduceLT,Int.reduceBEq,Ay];exact qc _ _ ⟨rfl,h1⟩
  obtain⟨u3,L3,s3,q3,b3,⟨qr,qs,qm,r3⟩,⟨L31,L32⟩,h3,w3⟩:=Ack (Ab0 (ih (k - 1) (by omega))) h1 (by omega) [109];simp only[go_sem,C6,Int.reduceLT,Int.reduceBEq,Int.reduceSub,A1,ek];refine Ac q3 ?_;simp only[go_sem,qr,qs,qm,h3.z];exact Iv (op:=4) (line:=0) (nm:=[109]) (arg:=[]) (iz:=true) (it:=0) (idx:=[]) (ex:=Xp.zero) (LB:=L3) (LE:=[]) h3 rfl (.inr b3) (.inl ⟨true,0,rfl⟩) (by rfl) fun _ _ _ _=>Iy (by simp) (by simp) (fun _=>rfl) (by simp) (.inr ⟨rfl,rfl⟩) (.inr ⟨rfl,Ha (by kernel_rfl)⟩) (.inl ⟨by simp,rfl⟩) (fun h=>by have h:true=false:=h;cases h) (fun _=>rfl) (fun _=>⟨qd,⟨Cw L32 (by omega),L31⟩,⟨by simp,by simp⟩⟩)
 .cases nb
  .simp only[go_sem,C6,Int.reduceLT,Int.reduceBEq];exact qc _ _ ⟨rfl,h1⟩
  have qd:=qB rfl;have ek:=e3 qd;obtain⟨z,qh⟩:=Vu h1 qI [110];simp only[go_sem,C6,Int.reduceLT,Int.reduceBEq,Int.reduceSub];refine Ck qh ?_;cases z;rotate_left
  .simp only[go_sem,C6,Int.reduceLT,Int.reduceBEq,Ay];exact qc _ _ ⟨rfl,h1⟩
  obtain⟨u3,L3,s3,q3,b3,⟨qr,qs,qm,r3⟩,⟨L31,L32⟩,h3,w3⟩:=Ack (Ab0 (ih (k - 1) (by omega))) h1 (by omega) [110];simp only[go_sem,C6,Int.reduceLT,Int.reduceBEq,Int.reduceSub,A1,ek];refine Ac q3 ?_;simp only[go_sem,qr,qs,qm,h3.z];exact Iv (op:=4) (line:=0) (nm:=[110]) (arg:=[]) (iz:=true) (it:=0) (idx:=[]) (ex:=Xp.zero) (LB:=L3) (LE:=[]) h3 rfl (.inr b3) (.inl ⟨true,0,rfl⟩) (by rfl) fun _ _ _ _=>Iy (by simp) (by simp) (fun _=>rfl) (by simp) (.inr ⟨rfl,rfl⟩) (.inr ⟨rfl,Ha (by kernel_rfl)⟩) (.inl ⟨by simp,rfl⟩) (fun h=>by have h:true=false:=h;cases h) (fun _=>rfl) (fun _=>⟨qd,⟨Cw L32 (by omega),L31⟩,⟨by simp,by simp⟩⟩)
 .cases nb
  .simp only[go_sem,C6,Int.reduceLT,Int.reduceBEq];exact qc _ _ ⟨rfl,h1⟩
  have qd:=qB rfl;have ek:=e3 qd;obtain⟨z,qh⟩:=Vu h1 qI [114];simp only[go_sem,C6,Int.reduceLT,Int.reduceBEq,Int.reduceSub];refine Ck qh ?_;cases z;rotate_left
  .simp only[go_sem,C6,Int.reduceLT,Int.reduceBEq,Ay];exact qc _ _ ⟨rfl,h1⟩
  obtain⟨u3,L3,s3,q3,b3,⟨qr,qs,qm,r3⟩,⟨L31,L32⟩,h3,w3⟩:=Ack (Ab0 (ih (k - 1) (by omega))) h1 (by omega) [114];simp only[go_sem,C6,Int.reduceLT,Int.reduceBEq,Int.reduceSub,Int.reduceAdd,A1,ek];refine Ac q3 ?_;simp only[go_sem,qr,qs,qm,h3.z];exact Iv (op:=5) (line:=0) (nm:=[114]) (arg:=[]) (iz:=true) (it:=0) (idx:=[]) (ex:=Xp.zero) (LB:=L3) (LE:=[]) h3 rfl (.inr b3) (.inl ⟨true,0,rfl⟩) (by rfl) fun _ _ _ _=>Iy (by simp) (by simp) (fun _=>rfl) (by simp) (.inr ⟨rfl,rfl⟩) (.inr ⟨rfl,Ha (by kernel_rfl)⟩) (.inl ⟨by simp,rfl⟩) (fun h=>by have h:true=false:=h;cases h) (fun _=>rfl) (fun _=>⟨qd,⟨Cw L32 (by omega),L31⟩,⟨by simp,by simp⟩⟩)
 .cases nb
  .simp only[go_sem,C6,Int.reduceLT,Int.reduceBEq];exact qc _ _ ⟨rfl,h1⟩
  have qd:=qB rfl;have ek:=e3 qd;obtain⟨z,qh⟩:=Vu h1 qI [114];simp only[go_sem,C6,Int.reduceLT,Int.reduceBEq,Int.reduceSub];refine Ck qh ?_;cases z;rotate_left
  .simp only[go_sem,C6,Int.reduceLT,Int.reduceBEq,Ay];exact qc _ _ ⟨rfl,h1⟩
  obtain⟨u3,L3,s3,q3,b3,⟨qr,qs,qm,r3⟩,⟨L31,L32⟩,h3,w3⟩:=Ack (Ab0 (ih (k - 1) (by omega))) h1 (by omega) [114];simp only[go_sem,C6,Int.reduceLT,Int.reduceBEq,Int.reduceSub,Int.reduceAdd,A1,ek];refine Ac q3 ?_;simp only[go_sem,qr,qs,qm,h3.z];exact Iv (op:=6) (line:=0) (nm:=[114]) (arg:=[]) (iz:=true) (it:=0) (idx:=[]) (ex:=Xp.zero) (LB:=L3) (LE:=[]) h3 rfl (.inr b3) (.inl ⟨true,0,rfl⟩) (by rfl) fun _ _ _ _=>Iy (by simp) (by simp) (fun _=>rfl) (by simp) (.inr ⟨rfl,rfl⟩) (.inr ⟨rfl,Ha (by kernel_rfl)⟩) (.inl ⟨by simp,rfl⟩) (fun h=>by have h:true=false:=h;cases h) (fun _=>rfl) (fun _=>⟨qd,⟨Cw L32 (by omega),L31⟩,⟨by simp,by simp⟩⟩)
 .cases nb
  .simp only[go_sem,C6,Int.reduceLT,Int.reduceBEq];exact qc _ _ ⟨rfl,h1⟩
  have qd:=qB rfl;have ek:=e3 qd;obtain⟨qg,qa,qk,qn,qe,qj,qu,m1,qt⟩:=Jb h1;obtain⟨h2,w2⟩:=qt qg qa qk true qe qj;obtain⟨s2,qo⟩:∃ t,t=s.set m (.row [.ptr b 0 0,iV qg,iV qa,.bool qk,.bool true,.bool qe,.bool qj,qu] 97 0 0):=⟨_,rfl⟩;rw[<-qo]at h2 w2;obtain⟨kg,ju,kf,kh,jY,ka,jx,m2,-⟩:=Jb h2;obtain⟨j,s3,q3,hj,h3,w3,jv⟩:=V7 h2 2;have ej:IntKind.i64.wrap (1+(j:Int))=((1+j:Nat):Int):=by rw[Ch (by omega)];omega
  obtain⟨u4,L4,s4,q4,b4,⟨qK,qL,qy,r4⟩,⟨L41,L42⟩,h4,w4⟩:=Yl (ih 0 (by omega)) h3 (by omega) (1+j);obtain⟨qC,qF,qE,qD,jg⟩:=Ada h4 (.row [iV 7,iV 0,.str [],.str [],.nils,iV 0,iV 0,.str [],.nils,u4,.nils] 104 0 0) (by simp only[Ob.refs,Ah,Ng,V.refs,Cr,B3];exact fun i hi=>Qr (Cy b4.1 i hi));obtain⟨s5,qz⟩:∃ t,t=s4++[Ob.row [iV 7,iV 0,.str [],.str [],.nils,iV 0,iV 0,.str [],.nils,u4,.nils] 104 0 0]:=⟨_,rfl⟩;rw[<-qz]at qC qF qE qD;have h5:=qC;have b5:=P5 b4 qF;obtain⟨qq,qb,qp,qx,qv,qw,qR,m5,qN⟩:=Jb h5;obtain⟨h6,w6⟩:=qN qq qb qp false qv qw;obtain⟨s6,qA⟩:∃ t,t=s5.set m (.row [.ptr b 0 0,iV qq,iV qb,.bool qp,.bool false,.bool qv,.bool qw,qR] 97 0 0):=⟨_,rfl⟩;rw[<-qA]at h6 w6;have b6:=P5 b5 w6;obtain⟨k6,n6⟩:=Ip w6 qD qE;simp only[go_sem,C6,Int.reduceLT,Int.reduceBEq,m1];rw[<-qo];simp only[go_sem,m2];refine Ac q3 ?_;simp only[go_sem,ej];refine Ac q4 ?_;simp only[go_sem,qK,qL,qy];rw[<-qz];simp only[go_sem,m5];rw[<-qA];simp only[go_sem,k6,h6.z,qy];exact Iv (op:=7) (line:=0) (nm:=[]) (arg:=[]) (iz:=true) (it:=0) (idx:=[]) (ex:=Xp.zero) (LB:=L4) (LE:=[]) h6 rfl (.inr b6) (.inl ⟨true,0,rfl⟩) (by rfl) fun _ _ _ _=>Iy (by simp) (by simp) (fun _=>rfl) (by simp) (.inr ⟨rfl,rfl⟩) (.inl ⟨rfl,rfl⟩) (.inl ⟨by simp,rfl⟩) (fun h=>by have h:true=false:=h;cases h) (fun _=>rfl) (fun _=>⟨qd,⟨Cw L42 (by omega),fun y hy=>A8q (Au _) (L41 y hy)⟩,⟨by simp,by simp⟩⟩)
 .cases nb
  .simp only[go_sem,C6,Int.reduceLT,Int.reduceBEq];exact qc _ _ ⟨rfl,h1⟩
  have qd:=qB rfl;have ek:=e3 qd;obtain⟨qg,qa,qk,qn,qe,qj,qu,m1,qt⟩:=Jb h1;cases qe;rotate_left
  .simp only[go_sem,C6,Int.reduceLT,Int.reduceBEq,m1,Ay];exact qc _ _ ⟨rfl,h1⟩
  obtain⟨h2,w2⟩:=qt qg qa qk qn true qj;obtain⟨s2,qo⟩:∃ t,t=s.set m (.row [.ptr b 0 0,iV qg,iV qa,.bool qk,.bool qn,.bool true,.bool qj,qu] 97 0 0):=⟨_,rfl⟩;rw[<-qo]at h2 w2;obtain⟨u4,L4,s4,q4,b4,⟨qK,qL,qy,r4⟩,⟨L41,L42⟩,h4,w4⟩:=Yl (ih (k - 1) (by omega)) h2 (by omega) 2;obtain⟨qC,qF,qE,qD,jg⟩:=Ada h4 (.row [iV 8,iV 0,.str [],.str [],.nils,iV 0,iV 0,.str [],.nils,u4,.nils] 104 0 0) (by simp only[Ob.refs,Ah,Ng,V.refs,Cr,B3];exact fun i hi=>Qr (Cy b4.1 i hi));obtain⟨s5,qz⟩:∃ t,t=s4++[Ob.row [iV 8,iV 0,.str [],.str [],.nils,iV 0,iV 0,.str [],.nils,u4,.nils] 104 0 0]:=⟨_,rfl⟩;rw[<-qz]at qC qF qE qD;have h5:=qC;have b5:=P5 b4 qF;obtain⟨qq,qb,qp,qx,qv,qw,qR,m5,qN⟩:=Jb h5;obtain⟨h6,w6⟩:=qN qq qb qp qx false qw;obtain⟨s6,qA⟩:∃ t,t=s5.set m (.row [.ptr b 0 0,iV qq,iV qb,.bool qp,.bool qx,.bool false,.bool qw,qR] 97 0 0):=⟨_,rfl⟩;rw[<-qA]at h6 w6;have b6:=P5 b5 w6;obtain⟨k6,n6⟩:=Ip w6 qD qE;simp only[go_sem,C6,Int.reduceLT,Int.reduceBEq,m1,A1];rw[<-qo];simp only[go_sem,ek];refine Ac q4 ?_;simp only[go_sem,qK,qL,qy];rw[<-qz];simp only[go_sem,m5];rw[<-qA];simp only[go_sem,k6,h6.z,qy];exact Iv (op:=8) (line:=0) (nm:=[]) (arg:=[]) (iz:=true) (it:=0) (idx:=[]) (ex:=Xp.zero) (LB:=L4) (LE:=[]) h6 rfl (.inr b6) (.inl ⟨true,0,rfl⟩) (by rfl) fun _ _ _ _=>Iy (by simp) (by simp) (fun _=>rfl) (by simp) (.inr ⟨rfl,rfl⟩) (.inl ⟨rfl,rfl⟩) (.inl ⟨by simp,rfl⟩) (fun h=>by have h:true=false:=h;cases h) (fun _=>rfl) (fun _=>⟨qd,⟨Cw L42 (by omega),L41⟩,⟨by simp,by simp⟩⟩)
 .cases nb
  .simp only[go_sem,C6,Int.reduceLT,Int.reduceBEq];exact qc _ _ ⟨rfl,h1⟩
  have qd:=qB rfl;have ek:=e3 qd;obtain⟨qg,qa,qk,qn,qe,qj,qu,m1,qt⟩:=Jb h1;cases qe;rotate_left
  .simp only[go_sem,C6,Int.reduceLT,Int.reduceBEq,m1,Ay];exact qc _ _ ⟨rfl,h1⟩
  obtain⟨z,qh⟩:=Vu h1 qI [109];simp only[go_sem,C6,Int.reduceLT,Int.reduceBEq,m1,A1];refine Ck qh ?_;cases z;rotate_left
  .simp only[go_sem,C6,Int.reduceLT,Int.reduceBEq,Ay];exact qc _ _ ⟨rfl,h1⟩
  have qJ:=Vc [97] (Gn [120]);simp only[Gn,SL,B7,and_self,true_and,if_true]at qJ;simp only[go_sem,A1];refine Ad (Aen _) (by rfl) ?_;simp only[go_sem];refine Ad qJ (by rfl) ?_;simp only[go_sem,h1.z];exact Iv (op:=4) (line:=0) (nm:=[109]) (arg:=[]) (iz:=true) (it:=0) (idx:=[]) (ex:=Xp.zero) (LB:=[Mb 9 [99],Ma [97] (Gn [120])]) (LE:=[]) h1 rfl (.inl ⟨true,1,by simp only[Bb,B7,Wn,Ad3];rfl⟩) (.inl ⟨true,0,rfl⟩) (by simp only[Bb,B7,Wn,Ad3];rfl) fun _ _ _ _=>Iy (by simp) (by simp) (fun _=>rfl) (by simp) (.inr ⟨rfl,rfl⟩) (.inr ⟨rfl,Ha (by kernel_rfl)⟩) (.inl ⟨by simp,rfl⟩) (fun h=>by have h:true=false:=h;cases h) (fun _=>rfl) (fun _=>⟨qd,⟨by simp,fun y hy=>by simp only[Bj,Qs,or_false]at hy;rcases hy with rfl | rfl<;>first | exact Z6 (.inl rfl) (Ha (by kernel_rfl)) | exact Akl (Ha (by kernel_rfl)) (Bim (Ha (by kernel_rfl)) 1)⟩,⟨by simp,by simp⟩⟩)
 .cases nb
  .simp only[go_sem,C6,Int.reduceLT,Int.reduceBEq];exact qc _ _ ⟨rfl,h1⟩
  have qd:=qB rfl;have ek:=e3 qd;obtain⟨z,qh⟩:=Vu h1 qI [109];simp only[go_sem,C6,Int.reduceLT,Int.reduceBEq];refine Ck qh ?_;cases z;rotate_left
  .simp only[go_sem,C6,Int.reduceLT,Int.reduceBEq,Ay];exact qc _ _ ⟨rfl,h1⟩
  obtain⟨qg,qa,qk,qn,qe,qj,qu,m1,qt⟩:=Jb h1;obtain⟨j,s3,q3,hj,h3,w3,jv⟩:=V7 h1 2;have ej:IntKind.i64.wrap (10+(j:Int))=10+(j:Int):=Ch (by omega);simp only[go_sem,A1,m1];refine Ac q3 ?_;simp only[go_sem,ej,h3.z];exact Iv (op:=4) (line:=0) (nm:=[109]) (arg:=[]) (iz:=true) (it:=0) (idx:=[]) (ex:=Xp.zero) (LB:=[Mb (10+(j:Int)) [99]]) (LE:=[]) h3 rfl (.inl ⟨true,1,by simp only[Bb,B7,Wn];rfl⟩) (.inl ⟨true,0,rfl⟩) (by simp only[Bb,B7,Wn];rfl) fun _ _ _ _=>Iy (by simp) (by simp) (fun _=>rfl) (by simp) (.inr ⟨rfl,rfl⟩) (.inr ⟨rfl,Ha (by kernel_rfl)⟩) (.inl ⟨by simp,rfl⟩) (fun h=>by have h:true=false:=h;cases h) (fun _=>rfl) (fun _=>⟨qd,⟨by simp,fun y hy=>by rw[Eo.1 hy];exact Z6 (by omega) (Ha (by kernel_rfl))⟩,⟨by simp,by simp⟩⟩)
 .obtain⟨qg,qa,qk,qn,qe,qj,qu,m1,qt⟩:=Jb h1;cases qn;rotate_left
  .simp only[go_sem,C6,Int.reduceLT,Int.reduceBEq,m1,Ay];exact qc _ _ ⟨rfl,h1⟩
  cases qj;rotate_left
  .simp only[go_sem,C6,Int.reduceLT,Int.reduceBEq,m1,Ay,A1];exact qc _ _ ⟨rfl,h1⟩
  cases qk;rotate_left
  .simp only[go_sem,C6,Int.reduceLT,Int.reduceBEq,m1,Ay,A1];exact qc _ _ ⟨rfl,h1⟩
  obtain⟨h2,w2⟩:=qt qg qa true false qe false;obtain⟨s2,qo⟩:∃ t,t=s.set m (.row [.ptr b 0 0,iV qg,iV qa,.bool true,.bool false,.bool qe,.bool false,qu] 97 0 0):=⟨_,rfl⟩;rw[<-qo]at h2 w2;obtain⟨x,s3,q3,hx,h3,w3,xs⟩:=Tt h2 1;simp only[go_sem,C6,Int.reduceLT,Int.reduceBEq,m1,A1];rw[<-qo];refine Ck q3 ?_;simp only[go_sem,h3.z];exact Iv (op:=14) (line:=0) (nm:=[102]) (arg:=[]) (iz:=true) (it:=0) (idx:=[]) (ex:=x) (LB:=[]) (LE:=[]) h3 rfl (.inl ⟨true,0,rfl⟩) (.inl ⟨true,0,rfl⟩) (by rfl) fun _ _ _ _=>Iy (by simp) (by simp) (fun _=>rfl) (by simp) (.inl ⟨rfl,hx⟩) (.inr ⟨rfl,Ha (by kernel_rfl)⟩) (.inl ⟨by simp,rfl⟩) (fun _=>rfl) (fun _=>rfl) (fun h=>by have h:false=true:=h;cases h)
 .obtain⟨qg,qa,qk,qn,qe,qj,qu,m1,qt⟩:=Jb h1;cases qn;rotate_left
  .simp only[go_sem,C6,Int.reduceLT,Int.reduceBEq,m1,Ay];exact qc _ _ ⟨rfl,h1⟩
  obtain⟨j,s3,q3,hj,h3,w3,jv⟩:=V7 h1 2;simp only[go_sem,C6,Int.reduceLT,Int.reduceBEq,m1,A1];refine Ac q3 ?_;by_cases j1:j=1
  .subst j1;simp only[go_sem,C6,Int.reduceBEq,h3.z];exact Iv (op:=15) (line:=0) (nm:=[97]) (arg:=[102]) (iz:=true) (it:=0) (idx:=[]) (ex:=Xp.zero) (LB:=[]) (LE:=[]) h3 rfl (.inl ⟨true,0,rfl⟩) (.inl ⟨true,0,rfl⟩) (by rfl) fun _ _ _ _=>Iy (by simp) (by simp) (fun _=>rfl) (by simp) (.inr ⟨rfl,rfl⟩) (.inr ⟨rfl,Ha (by kernel_rfl)⟩) (.inr ⟨rfl,Ha (by kernel_rfl)⟩) (fun _=>rfl) (fun _=>rfl) (fun h=>by have h:false=true:=h;cases h)
  .have fj:((j:Int)==1)=false:=by simp;omega
   simp only[go_sem,fj];exact qc _ _ ⟨rfl,h3⟩
def Aoe:∀ (K:Nat),K<=20->∀ k,k<=K->MSt k/\MSs k
 | 0,hK,k,hk=>by
  have h:=Am6 (k:=k) (by omega) fun j hj=>by omega
  exact⟨h,Aod h⟩
 | K+1,hK,k,hk=>by
  have h:=Am6 (k:=k) (by omega) fun j hj=>(Aoe K (by omega) j (by omega)).2
  exact⟨h,Aod h⟩
