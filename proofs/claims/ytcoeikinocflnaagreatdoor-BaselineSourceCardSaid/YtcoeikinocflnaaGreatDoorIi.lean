/- Walks: the maker of programs: its lists. -/
import Derived.Test.YtcoeikinocflnaaGreatDoorIh
import Derived.Test.YtcoeikinocflnaaGreatDoorLn
set_option linter.all false
namespace Go.Proofs.YtcoeikinocflnaaGreatDoor.KM
open Go
/-! settled objects -/
theorem Ao5(o:Ob):o.shut.refs=o.refs:=by cases o<;>rfl
theorem Rp:∀ (js:List Nat) (σ:St) (j:Nat),j ∉ js->(σ.freeze js)[j]?=σ[j]?
 | [],_,_,_=>rfl
 | i::js,σ,j,h=>by
  simp only[Be,not_or]at h;simp only[St.freeze]
  split
  ·rw[Rp js _ j h.2,Bc (Ne.symm h.1)]
  ·exact Rp js _ j h.2
theorem Sa:∀ (js:List Nat) (σ:St),Cl σ->Cl (σ.freeze js)
 | [],_,h=>h
 | i::js,σ,h=>by
  simp only[St.freeze]
  split
  ·rename_i ob ho;refine Sa js _ (Ge h ?_);rw[Ao5];exact h ob (Gq ho)
  ·exact Sa js _ h
theorem Xj{R:V->St->Prop}{f p:Nat}{res:List AR}{thr:Bool}{body:AC}{vs:List V}{σ:St}(hT:TT f=some ⟨p,res,thr,body,none⟩)(hl:vs.length=p)(h:W TT PT [.c body] (C2 0 vs) σ (Hd fun e' σ1=>∃ v,B6 e' σ1 res=some v/\(Cc v=true/\∀ i∈v.refs,i<σ1.length)/\(σ.length<=σ1.length/\Cl σ1)/\R v σ1)):∃ v σ',Bp TT PT f vs σ v σ'/\R v σ':=by
 obtain⟨e',σ1,hE,v,hr,⟨h1,h2⟩,⟨h3,h4⟩,h5⟩:=h;exact⟨v,σ1,Ai2 hT hl ⟨e',σ1,hE,hr,rfl⟩ h2 h1 h3 h4,h5⟩
theorem Arg{R:V->St->Prop}{f p:Nat}{res:List AR}{body:AC}{vs:List V}{σ:St}(hT:TT f=some ⟨p,res,true,body,none⟩)(hl:vs.length=p)(h:W TT PT [.c body] (C2 0 vs) σ (Hd fun e' σ1=>∃ cs cs',B6 e' σ1 res=some (.agg cs)/\(cs.all V.cellB=true/\OCs σ1 cs cs'/\cs'.all V.rowB=true)/\(σ.length<=σ1.length/\Cl σ1)/\R (.agg cs') (σ1.freeze (Aj cs)))):∃ v σ',Th TT PT f vs σ v σ'/\R v σ':=by
 obtain⟨e',σ1,hE,cs,cs',hr,⟨h1,h2,h3⟩,⟨h4,h5⟩,h6⟩:=h;have hset:Da (.agg cs')=true:=h3;exact⟨.agg cs',σ1.freeze (Aj cs),Atx hT hl ⟨e',σ1,hE,.agg cs,Aj cs,hr,h1,Uv h2 _ (fun i hi=>hi),rfl⟩ (Qx hset) (Uh hset) (by rw[Mg];exact h4) (Sa _ _ h5),h6⟩
/-! statements that are made -/
def BK:Nat->Nat
 | 0=>100
 | k+1=>100+4*BK k
def SM(k:Nat)(x:Sp):Prop:=SB k x/\Ct x.row<=BK k
theorem Ajg:∀ {k k':Nat},k<=k'->ZB k<=ZB k'
 | 0,0,_=>Ah _
 | 0,k'+1,_=>by simp[ZB]
 | k+1,k'+1,h=>by
  have:=Ajg (k:=k) (k':=k') (by omega);simp only[ZB];omega
theorem Ab2:∀ {k k':Nat},k<=k'->BK k<=BK k'
 | 0,0,_=>Ah _
 | 0,k'+1,_=>by simp[BK]
 | k+1,k'+1,h=>by
  have:=Ab2 (k:=k) (k':=k') (by omega);simp only[BK];omega
theorem Au6{k k':Nat}{x:Sp}(hk:k<=k')(h:SM k x):SM k' x:=by
 obtain⟨⟨h1,h2,h3⟩,h4⟩:=h;have:=Ajg hk;have:=Ab2 hk;exact⟨⟨h1,by omega,fun d hd=>Cj (h3 d (by omega)) (Nat.mul_le_mul_left _ (by omega))⟩,by omega⟩
/-! the maker's locks -/
theorem Akt{σ σ2:St}{m b:Nat}{uH vH:V}{H H':List (List UInt8)}(h:MKr σ m b uH H)(th left:Int)(se tx ao lp:Bool)(hl:σ.length<=σ2.length)(hB:∀ j,j<σ.length->j ∉ uH.refs->σ2[j]?=σ[j]?)(g:GS σ2 1 9 vH (H'.map fun x=>[V.str x]))(hr:∀ j∈vH.refs,j∈uH.refs\/σ.length<=j)(hc:Cl σ2):
  MKr (σ2.set m (.row [.ptr b 0 0,.int .i64 th,.int .i64 left,.bool se,.bool tx,.bool ao,.bool lp,vH] 98 0 0)) m b vH H'/\FW m σ (σ2.set m (.row [.ptr b 0 0,.int .i64 th,.int .i64 left,.bool se,.bool tx,.bool ao,.bool lp,vH] 98 0 0)):=by
 have hm:=H3 h;have hb:=L0 h.tape;have hf:=Fx h;have hrefs:Aj [.ptr b 0 0,.int .i64 th,.int .i64 left,.bool se,.bool tx,.bool ao,.bool lp,vH]=b::vH.refs:=by simp[Aj,V.refs]
 have nv:∀ j∈vH.refs,j≠m/\j≠b:=fun j hj=>by
  rcases hr j hj with h2 | h2
  ·exact h.hd j h2
  ·omega
 have e2:σ2[m]?=σ[m]?:=hB m hm fun e=>(h.hd m e).1 rfl
 have e3:σ2[b]?=σ[b]?:=hB b hb fun e=>(h.hd b e).2 rfl
 refine⟨⟨⟨th,left,se,tx,ao,lp,B8 (by omega)⟩,?_,h.ne,F5 g fun i hi=>Bc (Ne.symm (nv i hi).1),nv,Ge hc fun i hi=>?_⟩,Acj (τ:=σ2) ⟨hl,fun j hj hn=>?_,fun j hj=>?_⟩ hm fun j hj=>?_⟩
 ·obtain⟨z,t,l,a,h1,h2⟩:=h.tape;exact⟨z,t,l,a,by rw[Bc h.ne,e3];exact h1,h2⟩
 ·simp only[Ob.refs,hrefs,Be]at hi;rcases hi with rfl | hi
  ·omega
  ·exact Ch g i hi
 ·rw[hf]at hn;simp only[Be,not_or]at hn;exact hB j hj hn.2.2
 ·unfold fp at hj ⊢;rw[e2]at hj;exact .inl hj
 ·rw[hrefs]at hj;rw[hf];simp only[Be]at hj ⊢;rcases hj with rfl | hj
  ·exact .inl (.inr (.inl rfl))
  ·rcases hr j hj with h2 | h2
   ·exact .inl (.inr (.inr h2))
   ·exact .inr h2
def OL(σ0 σ:St)(m:Nat)(u:V)(L:List Sp):Prop:=GS σ 11 105 u (L.map Sp.row)/\∀ j∈u.refs,σ0.length<=j/\j ∉ fp σ m
theorem Alr{σ0 σ τ:St}{m:Nat}{u:V}{L:List Sp}(h:OL σ0 σ m u L)(hw:FW m σ τ):OL σ0 τ m u L:=by
 obtain⟨h1,h2⟩:=h;refine⟨F5 h1 fun i hi=>hw.2.1 i (Ch h1 i hi) (h2 i hi).2,fun j hj=>⟨(h2 j hj).1,fun hm=>?_⟩⟩;have:=Ch h1 j hj;rcases hw.2.2 j hm with h3 | h3
 ·exact(h2 j hj).2 h3
 ·omega
theorem Ayl{σ0 σ:St}{m b:Nat}{uH u:V}{H:List (List UInt8)}{L:List Sp}(h:OL σ0 σ m u L)(hk:MKr σ m b uH H)(h0:FW m σ0 σ)(hm0:m<σ0.length)(x:Sp)(hb:L.length<=1000000):∃ u' σ',Eu 176 (11,105) u (.lst 1 [x.row]) σ=some (u',σ')/\OL σ0 σ' m u' (L++[x])/\MKr σ' m b uH H/\FW m σ0 σ':=by
 obtain⟨h1,h2⟩:=h;have hl0:(L.map Sp.row).length=L.length:=Bl ..;obtain⟨u',σ',e1,g,hl,hB,hr,hc⟩:=Rd (bytes:=176) (row:=x.row) h1 (by omega) (Lp x) (Fi x) (by omega);have hf:=Fx hk
 have nf:∀ i∈fp σ m,i<σ.length/\i ∉ u.refs:=fun i hi=>by
  refine⟨?_,fun e=>(h2 i e).2 hi⟩;rw[hf]at hi;simp only[Be]at hi;rcases hi with rfl | rfl | hi
  ·exact H3 hk
  ·exact L0 hk.tape
  ·exact Ch hk.h i hi
 have kp:∀ i∈fp σ m,σ'[i]?=σ[i]?:=fun i hi=>hB i (nf i hi).1 (nf i hi).2
 have hm:σ'[m]?=σ[m]?:=kp m (by rw[hf];simp);have hb':σ'[b]?=σ[b]?:=kp b (by rw[hf];simp);have efp:fp σ' m=fp σ m:=by unfold fp;rw[hm]
 refine⟨u',σ',e1,⟨by rw[Fb];exact g,fun j hj=>?_⟩,Mw hk (hc hk.cl) hm ?_ (fun i hi=>kp i (by rw[hf];simp[hi])),Aki h0 hm0 hl (fun j hj=>.inr (h2 j hj).1) (fun j hj hn=>hB j hj hn) fun e=>(h2 m e).2 (by rw[hf];simp)⟩
 ·rw[efp];rcases hr j hj with h3 | h3
  ·exact h2 j h3
  ·exact⟨by have:=h0.1;omega,fun e=>by have:=(nf j e).1;omega⟩
 ·obtain⟨z,t,l,a,h1,h2⟩:=hk.tape;exact⟨z,t,l,a,by rw[hb'];exact h1,h2⟩
def MSt(k:Nat):Prop:=∀ (σ:St) (m b:Nat) (uH:V) (H:List (List UInt8)),MKr σ m b uH H->H.length+k<=100->∃ v σ',Th TT PT 92 [.ptr m 0 0,.int .i64 (k:Int)] σ v σ'/\(∃ x:Sp,v=.agg x.row/\SM k x)/\(∃ uH',MKr σ' m b uH' H)/\FW m σ σ'
def Vt(k:Nat):Prop:=∀ (σ:St) (m b:Nat) (uH:V) (H:List (List UInt8)),MKr σ m b uH H->H.length+k<=100->∀ n:Nat,n<=1000000->∃ v σ',Bp TT PT 52 [.ptr m 0 0,.int .i64 (k:Int),.int .i64 (n:Int)] σ v σ'/\∃ (L:List Sp) (uH':V),OL σ σ' m v L/\(∀ x∈L,SM k x)/\L.length<=n/\MKr σ' m b uH' H/\FW m σ σ'
theorem Agm{k:Nat}(hS:MSt k):Vt k:=by
 intro σ m b uH H h hH n hn;have hm0:=H3 h;refine Xj T52 rfl ?_;simp only[go_sem];refine B9 (α:=Nat × St × V × V × List Sp) (fun a=>n - a.1) (fun a=>[(0,.ptr m 0 0),(1,.int .i64 (k:Int)),(2,.int .i64 (n:Int)),(7,a.2.2.1),(8,.int .i64 (a.1:Int))]) (fun a=>a.2.1) (fun a=>a.1<=n/\(OL σ a.2.1 m a.2.2.1 a.2.2.2.2/\(∀ x∈a.2.2.2.2,SM k x)/\a.2.2.2.2.length=a.1)/\MKr a.2.1 m b a.2.2.2.1 H/\FW m σ a.2.1) ?_ (0,σ,.nils,uH,[]) ⟨A2 _,⟨⟨Uy,by simp[V.refs]⟩,by simp,rfl⟩,h,Xq _ _⟩;rintro⟨i,s,u,vH,L⟩ ⟨hi,⟨hO,hL,hlen⟩,hk,hw⟩ ih;simp only at hi hO hL hlen hk hw ih;obtain⟨_,left,_,_,_,_,m1⟩:=hk.row;have hcell:=Hg hO.1;have fin:∃ v,some u=some v/\(Cc v=true/\∀ i∈v.refs,i<s.length)/\(σ.length<=s.length/\Cl s)/\∃ (L:List Sp) (uH':V),OL σ s m v L/\(∀ x∈L,SM k x)/\L.length<=n/\MKr s m b uH' H/\FW m σ s:=⟨u,rfl,⟨by cases u<;>simp[V.cellB]at hcell<;>rfl,Ch hO.1⟩,⟨hw.1,hk.cl⟩,L,vH,hO,hL,by omega,hk,hw⟩;refine Ca (by delta lp52_0;exact rfl) ?_;by_cases hc:i<n/\(i=0\/0<left)
 ·have f1:((i:Int)<(n:Int))=True:=eq_true (by omega);obtain⟨_,s2,q2,⟨x,rfl,hx⟩,⟨vH2,hk2⟩,w2⟩:=hS s m b vH H hk hH;have hO2:=Alr hO w2;obtain⟨u',s3,ha,hO3,hk3,w3⟩:=Ayl hO2 hk2 (Ee hw w2) hm0 x (by omega);have hxs:=Fi x;have hxr:=Eg x;rw[hxr]at q2 hxs ha;rcases(show i=0\/(i≠0/\0<left) by omega) with h0 | ⟨h0,hl⟩
  case' inl=>have f2:((i:Int)==0)=true:=by simp[h0]
  case' inr=>have f2:((i:Int)==0)=false:=by simp[h0]
  case' inr=>have f3:((0:Int)<left)=True:=eq_true hl
  case' inl=>simp only[go_sem,m1,f1,f2]
  case' inr=>simp only[go_sem,m1,f1,f2,f3,gt_iff_lt]
  all_goals
   refine B5 q2 ?_;simp only[go_sem,ha,Bg (show i<9223372036854775807 by omega)];refine Bi (ih (i+1,s3,u',vH2,L++[x]) (by simp only;omega) ⟨by simp only;omega,⟨hO3,fun y hy=>?_,by simp[hlen]⟩,hk3,w3⟩) rfl;rcases Cq.1 hy with hy | hy
   ·exact hL y hy
   ·rw[Ey.1 hy];exact hx
 ·by_cases h1:i<n
  ·have f1:((i:Int)<(n:Int))=True:=eq_true (by omega);have f2:((i:Int)==0)=false:=by simp;omega
   have f3:((0:Int)<left)=False:=eq_false (by omega);simp only[go_sem,m1,f1,f2,f3,gt_iff_lt];exact fin
  ·have f1:((i:Int)<(n:Int))=False:=eq_false (by omega);simp only[go_sem,m1,f1];exact fin
