/- Walks: the maker of programs: what a statement's walk carries along. -/
import Derived.Test.YtcoeikinocflnaaGreatDoorIi
import Derived.Test.YtcoeikinocflnaaGreatDoorIg
set_option linter.all false
namespace Go.Proofs.YtcoeikinocflnaaGreatDoor.KM
open Go
theorem Qt(nm:List UInt8)(x:Xp):Fn TT PT 54 [.str nm,.agg [.int .i64 x.op,.int .i64 x.n,.str x.nm,SL x.z x.t (x.l.map Xp.row)]] (.agg [.int .i64 1,.int .i64 0,.str nm,.str [],.nils,.int .i64 x.op,.int .i64 x.n,.str x.nm,SL x.z x.t (x.l.map Xp.row),.nils,.nils]):=by
 have hxs:=C7 x;rw[Ax x]at hxs;refine Bn T54 rfl ?_;simp only[go_sem];exact Ek (by simp only[go_sem])
theorem Id{v:V}(h:v.cellB=true):v.cells=[v]/\[v].all V.cellB=true:=⟨by cases v<;>simp[V.cellB]at h<;>rfl,by simp only[Au,A1,h];rfl⟩
theorem Arh{σ:St}{m b:Nat}{uH:V}{H:List (List UInt8)}(h:MKr σ m b uH H)(hH:H.length<=1000)(nm:List UInt8):∃ z:Bool,Th TT PT 131 [.ptr m 0 0,.str nm] σ (.bool z) σ:=by
 obtain⟨_,_,_,_,_,_,m1⟩:=h.row;obtain⟨z,hz⟩:=Adc h.h (by omega);have ha:=Rl z 0 H nm (by omega)
 suffices hh:∃ v,Th TT PT 131 [.ptr m 0 0,.str nm] σ v σ/\∃ z,v=.bool z by
  obtain⟨_,h1,z,rfl⟩:=hh;exact⟨z,h1⟩
 refine Akn T131 rfl ?_;simp only[go_sem,m1];refine Alh (.cons (Xo hz (Hg h.h)) (.cons (Ig rfl) .nil)) ha (by rfl) ?_;simp only[go_sem];exact⟨_,rfl,⟨rfl,rfl⟩,⟨[],by simp⟩,_,rfl⟩
structure MW (σ s:St) (m b:Nat) (H:List (List UInt8)):Prop where
 hk:∃ uH,MKr s m b uH H
 fw:FW m σ s
 z:s[σ.length]?=some (.row [.int .i64 0,.int .i64 0,.str [],.str [],.nils,.int .i64 0,.int .i64 0,.str [],.nils,.nils,.nils] 105 0 0)
 n:σ.length ∉ fp s m
 m0:m<σ.length
theorem Sb{σ s:St}{m b:Nat}{H:List (List UInt8)}(h:MW σ s m b H):σ.length<s.length:=(Ar.1 h.z).1
theorem Rf{σ s s':St}{m b:Nat}{H:List (List UInt8)}{uH:V}(h:MW σ s m b H)(hk:MKr s' m b uH H)(w:FW m s s'):MW σ s' m b H:=by
 obtain⟨k,n⟩:=Gu w h.z h.n;exact⟨⟨_,hk⟩,Ee h.fw w,k,n,h.m0⟩
theorem Hl{σ s:St}{m b:Nat}{H:List (List UInt8)}(h:MW σ s m b H):∃ (th left:Int) (se tx ao lp:Bool) (uH:V),s[m]?=some (.row [.ptr b 0 0,.int .i64 th,.int .i64 left,.bool se,.bool tx,.bool ao,.bool lp,uH] 98 0 0) /\
  ∀ (th left:Int) (se tx ao lp:Bool),MW σ (s.set m (.row [.ptr b 0 0,.int .i64 th,.int .i64 left,.bool se,.bool tx,.bool ao,.bool lp,uH] 98 0 0)) m b H/\FW m s (s.set m (.row [.ptr b 0 0,.int .i64 th,.int .i64 left,.bool se,.bool tx,.bool ao,.bool lp,uH] 98 0 0)):=by
 obtain⟨uH,hk⟩:=h.hk;obtain⟨th,left,se,tx,ao,lp,hr⟩:=hk.row;refine⟨th,left,se,tx,ao,lp,uH,hr,fun th left se tx ao lp=>?_⟩;obtain⟨h1,h2⟩:=Aks hk th left se tx ao lp;exact⟨Rf h h1 h2,h2⟩
theorem Rg{σ s:St}{m b:Nat}{H:List (List UInt8)}(h:MW σ s m b H)(n:Nat)(hn:n<=1000000000:=by omega):∃ (r:Nat) (s':St),Bp TT PT 51 [.ptr b 0 0,.int .i64 (n:Int)] s (.int .i64 (r:Int)) s'/\(r<n\/r=0)/\MW σ s' m b H/\FW m s s'/\s'[m]?=s[m]?:=by
 obtain⟨uH,hk⟩:=h.hk;obtain⟨r,s',q,h1,h2,-,h4,h5⟩:=Mp hk n n rfl hn;exact⟨r,s',q,h4,Rf h h1 h2,h2,h5⟩
theorem Pi{σ s:St}{m b:Nat}{H:List (List UInt8)}(h:MW σ s m b H)(d:Nat)(hd:d<=5:=by omega):∃ (x:Xp) (s':St),Th TT PT 128 [.ptr m 0 0,.int .i64 (d:Int)] s (.agg [.int .i64 x.op,.int .i64 x.n,.str x.nm,SL x.z x.t (x.l.map Xp.row)]) s'/\MX d x/\MW σ s' m b H/\FW m s s'/\Da (.agg [.int .i64 x.op,.int .i64 x.n,.str x.nm,SL x.z x.t (x.l.map Xp.row)])=true:=by
 obtain⟨uH,hk⟩:=h.hk;obtain⟨_,s',q,⟨x,rfl,hx⟩,h1,h2⟩:=Ah6 5 (by omega) d hd s m b uH H hk;have hs:=C7 x;rw[Ax x]at q hs;exact⟨x,s',q,hx,Rf h h1 h2,h2,hs⟩
theorem Q7{σ s:St}{m b:Nat}{H:List (List UInt8)}(h:MW σ s m b H)(hH:H.length<=1000)(nm:List UInt8):∃ z:Bool,Th TT PT 131 [.ptr m 0 0,.str nm] s (.bool z) s:=by
 obtain⟨uH,hk⟩:=h.hk;exact Arh hk hH nm
def Nd(σ s:St)(m:Nat)(u:V)(L:List Sp):Prop:=GS s 11 105 u (L.map Sp.row)/\∀ j∈u.refs,σ.length<j/\j ∉ fp s m
theorem M3{σ s s':St}{m:Nat}{u:V}{L:List Sp}(h:Nd σ s m u L)(hw:FW m s s'):Nd σ s' m u L:=by
 obtain⟨h1,h2⟩:=h;refine⟨F5 h1 fun i hi=>hw.2.1 i (Ch h1 i hi) (h2 i hi).2,fun j hj=>⟨(h2 j hj).1,fun hm=>?_⟩⟩;have:=Ch h1 j hj;rcases hw.2.2 j hm with h3 | h3
 ·exact(h2 j hj).2 h3
 ·omega
theorem Aku{s:St}{m j:Nat}{X:Ob}(hj:j≠m):fp (s.set j X) m=fp s m:=by
 unfold fp;rw[Bc hj]
theorem Akv{σ s:St}{m j:Nat}{u:V}{L:List Sp}(X:Ob)(h:Nd σ s m u L)(hj:j ∉ u.refs)(hm:j≠m):Nd σ (s.set j X) m u L:=by
 obtain⟨h1,h2⟩:=h;exact⟨F5 h1 fun i hi=>Bc fun(e:j=i)=>hj (by rw[e];exact hi),fun i hi=>⟨(h2 i hi).1,by rw[Aku hm];exact(h2 i hi).2⟩⟩
theorem T7{σ s:St}{m b k:Nat}{H:List (List UInt8)}(hS:Vt k)(h:MW σ s m b H)(hH:H.length+k<=100)(n:Nat)(hn:n<=1000000:=by omega):∃ (u:V) (L:List Sp) (s':St),Bp TT PT 52 [.ptr m 0 0,.int .i64 (k:Int),.int .i64 (n:Int)] s u s'/\Nd σ s' m u L/\(u.cells=[u]/\[u].all V.cellB=true/\u.cellB=true/\∀ j∈u.refs,s.length<=j)/\((∀ x∈L,SM k x)/\L.length<=n)/\MW σ s' m b H/\FW m s s':=by
 obtain⟨uH,hk⟩:=h.hk;obtain⟨u,s',q,L,uH',hO,hL,hlen,h1,h2⟩:=hS s m b uH H hk hH n hn;have hc:=Hg hO.1;have hl:=Sb h;exact⟨u,L,s',q,⟨hO.1,fun j hj=>⟨by have:=(hO.2 j hj).1;omega,(hO.2 j hj).2⟩⟩,⟨(Id hc).1,(Id hc).2,hc,fun j hj=>(hO.2 j hj).1⟩,⟨hL,hlen⟩,Rf h h1 h2,h2⟩
def MBl(k:Nat):Prop:=∀ (σ:St) (m b:Nat) (uH:V) (H:List (List UInt8)) (nm:List UInt8),MKr σ m b uH H->H.length+1+k<=100->∃ v σ',Bp TT PT 132 [.ptr m 0 0,.str nm,.int .i64 (k:Int)] σ v σ'/\∃ (L:List Sp) (uH':V),OL σ σ' m v L/\(∀ x∈L,SM k x)/\L.length<=2/\MKr σ' m b uH' H/\FW m σ σ'
theorem Xk{σ s:St}{m b k:Nat}{H:List (List UInt8)}(hS:MBl k)(h:MW σ s m b H)(hH:H.length+1+k<=100)(nm:List UInt8):∃ (u:V) (L:List Sp) (s':St),Bp TT PT 132 [.ptr m 0 0,.str nm,.int .i64 (k:Int)] s u s'/\Nd σ s' m u L/\(u.cells=[u]/\[u].all V.cellB=true/\u.cellB=true/\∀ j∈u.refs,s.length<=j)/\((∀ x∈L,SM k x)/\L.length<=2)/\MW σ s' m b H/\FW m s s':=by
 obtain⟨uH,hk⟩:=h.hk;obtain⟨u,s',q,L,uH',hO,hL,hlen,h1,h2⟩:=hS s m b uH H nm hk hH;have hc:=Hg hO.1;have hl:=Sb h;exact⟨u,L,s',q,⟨hO.1,fun j hj=>⟨by have:=(hO.2 j hj).1;omega,(hO.2 j hj).2⟩⟩,⟨(Id hc).1,(Id hc).2,hc,fun j hj=>(hO.2 j hj).1⟩,⟨hL,hlen⟩,Rf h h1 h2,h2⟩
theorem X1{σ s:St}{m b:Nat}{H:List (List UInt8)}(h:MW σ s m b H)(X:Ob)(hX:∀ i∈X.refs,i<s.length+1):MW σ (s++[X]) m b H/\FW m s (s++[X])/\s.length ∉ fp (s++[X]) m/\(s++[X])[s.length]?=some X/\s.length≠m:=by
 obtain⟨uH,hk⟩:=h.hk;obtain⟨h1,h2⟩:=X0 hk [X] (Pe hk.cl hX);have hm:=H3 hk;refine⟨Rf h h1 h2,h2,fun hm=>?_,by simp,by omega⟩;rw[Fx h1,<-Fx hk]at hm;exact Yh (τ:=s) hk (Ah _) hm
theorem Aym{σ s:St}{m b j:Nat}{H:List (List UInt8)}(h:MW σ s m b H)(X:Ob)(hj:σ.length<j)(hn:j ∉ fp s m)(hX:∀ i∈X.refs,i<s.length):MW σ (s.set j X) m b H:=by
 obtain⟨uH,hk⟩:=h.hk;rw[Fx hk]at hn;simp only[Be,not_or]at hn;refine⟨⟨uH,Mw hk (Ge hk.cl hX) (Bc hn.1) ?_ fun i hi=>Bc fun(e:j=i)=>hn.2.2 (by rw[e];exact hi)⟩,Akh h.fw (by omega) h.m0,by rw[Bc (by omega)];exact h.z,by rw[Aku hn.1];exact h.n,h.m0⟩;obtain⟨z,t,l,a,h1,h2⟩:=hk.tape;exact⟨z,t,l,a,by rw[Bc hn.2.1];exact h1,h2⟩
theorem Ayn{σ s:St}{m b:Nat}{u:V}{H:List (List UInt8)}{L:List Sp}(h:Nd σ s m u L)(hk:MW σ s m b H)(x:Sp)(hb:L.length<=1000000):∃ u' s',Eu 176 (11,105) u (.lst 1 [x.row]) s=some (u',s')/\Nd σ s' m u' (L++[x])/\(u'.cells=[u']/\[u'].all V.cellB=true/\u'.cellB=true)/\MW σ s' m b H:=by
 obtain⟨uH,hk1⟩:=hk.hk;obtain⟨h1,h2⟩:=h;obtain⟨u',s',e1,g,hl,hB,hr,hc⟩:=Rd (bytes:=176) (row:=x.row) h1 (by omega) (Lp x) (Fi x) (by rw[Bl];omega);have hf:=Fx hk1
 have nf:∀ i∈fp s m,i<s.length/\i ∉ u.refs:=fun i hi=>by
  refine⟨?_,fun e=>(h2 i e).2 hi⟩;rw[hf]at hi;simp only[Be]at hi;rcases hi with rfl | rfl | hi
  ·exact H3 hk1
  ·exact L0 hk1.tape
  ·exact Ch hk1.h i hi
 have kp:∀ i∈fp s m,s'[i]?=s[i]?:=fun i hi=>hB i (nf i hi).1 (nf i hi).2
 have hm:s'[m]?=s[m]?:=kp m (by rw[hf];simp);have hb':s'[b]?=s[b]?:=kp b (by rw[hf];simp);have efp:fp s' m=fp s m:=by unfold fp;rw[hm]
 refine⟨u',s',e1,⟨by rw[Fb];exact g,fun j hj=>?_⟩,⟨(Id (Hg g)).1,(Id (Hg g)).2,Hg g⟩,⟨uH,Mw hk1 (hc hk1.cl) hm ?_ fun i hi=>kp i (by rw[hf];simp[hi])⟩,Aki hk.fw hk.m0 hl (fun j hj=>.inr (Nat.le_of_lt (h2 j hj).1)) (fun j hj hn=>hB j hj hn) fun e=>(h2 m e).2 (by rw[hf];simp),by rw[hB _ (Sb hk) fun e=>by have:=(h2 _ e).1;omega];exact hk.z,by rw[efp];exact hk.n,hk.m0⟩
 ·rw[efp];rcases hr j hj with h3 | h3
  ·exact h2 j h3
  ·exact⟨by have:=Sb hk;omega,fun e=>by have:=(nf j e).1;omega⟩
 ·obtain⟨z,t,l,a,h1,h2⟩:=hk1.tape;exact⟨z,t,l,a,by rw[hb'];exact h1,h2⟩
def BSs(σ s:St)(m:Nat)(u:V)(L:List Sp):Prop:=(∃ z t,u=SL z t (L.map Sp.row))\/Nd σ s m u L
theorem Als{σ s:St}{m:Nat}{u:V}{L:List Sp}(h:BSs σ s m u L)(X:Ob):∃ z t,OC (s.set σ.length X) u (SL z t (L.map Sp.row))/\u.cellB=true/\(∀ j∈u.refs,σ.length<j/\j ∉ fp s m/\j<s.length):=by
 rcases h with⟨z,t,rfl⟩ | ⟨h1,h2⟩
 ·refine⟨z,t,Hj ?_,?_,by rw[Ky];simp⟩
  ·exact K4 z t _
  ·unfold SL;split<;>rfl
 ·have h3:GS (s.set σ.length X) 11 105 u (L.map Sp.row):=F5 h1 fun i hi=>Bc (by have:=(h2 i hi).1;omega)
  obtain⟨z,hz⟩:=Adc h3 (by omega);exact⟨z,0,hz,Hg h1,fun j hj=>⟨(h2 j hj).1,(h2 j hj).2,Ch h1 j hj⟩⟩
set_option maxHeartbeats 1000000 in
theorem Gw{σ s:St}{m b k:Nat}{H:List (List UInt8)}{e:Env}{uB uE:V}{cs:List V}{op line:Int}{nm arg:List UInt8}{iz:Bool}{it:Nat}{idx:List Xp}{ex:Xp}{LB LE:List Sp}(h:MW σ s m b H)(he:e.get 4=.ptr σ.length 0 0)(hB:BSs σ s m uB LB)(hE:BSs σ s m uE LE)
  (hcs:cs=[.int .i64 op,.int .i64 line,.str nm,.str arg,SL iz it (idx.map Xp.row),.int .i64 ex.op,.int .i64 ex.n,.str ex.nm,SL ex.z ex.t (ex.l.map Xp.row),uB,uE]) (hS:∀ z t z' t',SM k ⟨op,line,nm,arg,iz,it,idx,ex,z,t,LB,z',t',LE⟩) :
  ∃ cs1 cs',B6 e (s.set σ.length (.row cs 105 0 0)) [.cell 4 11 false]=some (.agg cs1)/\(cs1.all V.cellB=true/\OCs (s.set σ.length (.row cs 105 0 0)) cs1 cs'/\cs'.all V.rowB=true)/\(σ.length<=(s.set σ.length (.row cs 105 0 0)).length/\Cl (s.set σ.length (.row cs 105 0 0))) /\
   ((∃ x:Sp,V.agg cs'=.agg x.row/\SM k x)/\(∃ uH',MKr (St.freeze (s.set σ.length (.row cs 105 0 0)) (Aj cs1)) m b uH' H)/\FW m σ (St.freeze (s.set σ.length (.row cs 105 0 0)) (Aj cs1))):=by
 have hl:=Sb h;obtain⟨uH,hk⟩:=h.hk;obtain⟨z1,t1,o1,c1,r1⟩:=Als hB (.row cs 105 0 0);obtain⟨z2,t2,o2,c2,r2⟩:=Als hE (.row cs 105 0 0);have hxi:V.rowB (SL iz it (idx.map Xp.row))=true:=K4 _ _ _;have hxl:V.rowB (SL ex.z ex.t (ex.l.map Xp.row))=true:=K4 _ _ _
 have hrefs:Aj cs=uB.refs++uE.refs:=by
  rw[hcs];simp only[Aj,Ky,V.refs,Es,Cw]
 have hfr:∀ j∈Aj cs,σ.length<j/\j ∉ fp s m/\j<s.length:=fun j hj=>by
  rw[hrefs]at hj;rcases Cq.1 hj with hj | hj
  ·exact r1 j hj
  ·exact r2 j hj
 have hcl:Cl (s.set σ.length (.row cs 105 0 0)):=Ge hk.cl fun i hi=>(hfr i hi).2.2
 have hn:=h.n;have hfp:=Fx hk;rw[hfp]at hn;simp only[Be,not_or]at hn;have hself:(s.set σ.length (.row cs 105 0 0))[σ.length]?=some (.row cs 105 0 0):=B8 hl
 have hmF:∀ j,j∈fp s m->(St.freeze (s.set σ.length (.row cs 105 0 0)) (Aj cs))[j]?=s[j]?:=fun j hj=>by
  rw[Rp _ _ _ fun e=>(hfr j e).2.1 hj,Bc fun(e:σ.length=j)=>h.n (by rw[e];exact hj)]
 have hmm:=hmF m (by rw[hfp];simp);refine⟨cs,[.int .i64 op,.int .i64 line,.str nm,.str arg,SL iz it (idx.map Xp.row),.int .i64 ex.op,.int .i64 ex.n,.str ex.nm,SL ex.z ex.t (ex.l.map Xp.row),SL z1 t1 (LB.map Sp.row),SL z2 t2 (LE.map Sp.row)],Sj hself he (by rw[hcs];rfl),⟨?_,?_,?_⟩,⟨by rw[Gr];omega,hcl⟩,⟨⟨op,line,nm,arg,iz,it,idx,ex,z1,t1,LB,z2,t2,LE⟩,by rw[Eg],hS z1 t1 z2 t2⟩,⟨uH,Mw hk (Sa _ _ hcl) hmm ?_ fun i hi=>hmF i (by rw[hfp];simp[hi])⟩,?_⟩
 ·rw[hcs]
  have a1:V.cellB (SL iz it (idx.map Xp.row))=true:=by unfold SL;split<;>rfl
  have a2:V.cellB (SL ex.z ex.t (ex.l.map Xp.row))=true:=by unfold SL;split<;>rfl
  simp only[Au,A1,a1,a2,c1,c2];rfl
 ·conv=>arg 2;rw[hcs]
  exact .cons (Hj rfl) (.cons (Hj rfl) (.cons (Hj rfl) (.cons (Hj rfl) (.cons (Hj hxi) (.cons (Hj rfl) (.cons (Hj rfl) (.cons (Hj rfl) (.cons (Hj hxl) (.cons o1 (.cons o2 .nil))))))))))
 ·have b1:V.rowB (SL z1 t1 (LB.map Sp.row))=true:=K4 _ _ _;have b2:V.rowB (SL z2 t2 (LE.map Sp.row))=true:=K4 _ _ _;simp only[Au,A1,hxi,hxl,b1,b2];rfl
 ·obtain⟨z,t,l,a,h1,h2⟩:=hk.tape;exact⟨z,t,l,a,by rw[hmF b (by rw[hfp];simp)];exact h1,h2⟩
 ·have hw:=h.fw;refine⟨by rw[Mg,Gr];omega,fun j hj hn2=>?_,fun j hj=>?_⟩
  ·rw[Rp _ _ _ fun e=>by have:=(hfr j e).1;omega,Bc (by omega)];exact hw.2.1 j hj hn2
  ·unfold fp at hj;rw[hmm]at hj;exact hw.2.2 j hj
theorem G0{k:Nat}{x:Sp}(h1:1<=x.op/\x.op<=15)(h2:x.idx.length<=1)(h3:x.op≠1->x.idx=[])(h4:∀ y∈x.idx,MX 0 y)(h5:(Dl x.op=true/\MX 1 x.ex)\/(Dl x.op=false/\x.ex=Xp.zero))(h6:(E5 x.op=true/\x.nm=[])\/(E5 x.op=false/\Ip x.nm))(h7:(x.op≠15/\x.arg=[])\/(x.op=15/\Ip x.arg))
  (h8:Bq x.op=false->x.body=[]) (h8':x.op≠2->x.els=[]) (h9:Bq x.op=true->k≠0/\(x.body.length<=3/\∀ y∈x.body,SM (k - 1) y)/\(x.els.length<=1/\∀ y∈x.els,SM (k - 1) y)):SM k x:=by
 have hv:∀ n:Int,(n=1\/n=2\/n=3\/n=14)->Dl n=true:=by
  rintro n (rfl | rfl | rfl | rfl)<;>rfl
 have e0:EB 0=22:=rfl;have e1:EB 1=54:=rfl;have x0:J4 0=12:=rfl;have x1:J4 1=36:=rfl;refine⟨A1t h1 h2 h3 (fun y hy=>⟨(h4 y hy).1,by have:=(h4 y hy).2.1;omega⟩) (fun h=>?_) (fun h=>?_) h6 h7 h8 h8' fun h=>?_,?_⟩
 ·rcases h5 with⟨-,h5⟩ | ⟨h5,-⟩
  ·exact⟨h5.1,by have:=h5.2.1;omega⟩
  ·rw[hv _ h]at h5;cases h5
 ·rcases h5 with⟨h5,-⟩ | ⟨-,h5⟩
  ·rw[h]at h5;cases h5
  ·rw[h5];exact⟨rfl,rfl,rfl,rfl⟩
 ·obtain⟨a,b,c⟩:=h9 h;exact⟨a,b.1,c.1,fun y hy=>(b.2 y hy).1,fun y hy=>(c.2 y hy).1⟩
 ·have hn:x.nm.length<=4:=by
   rcases h6 with⟨-,h⟩ | ⟨-,h⟩
   ·rw[h];simp
   ·exact h.2
  have ha:x.arg.length<=4:=by
   rcases h7 with⟨-,h⟩ | ⟨-,h⟩
   ·rw[h];simp
   ·exact h.2
  have hi:Ck (x.idx.map Xp.row)<=12:=by
   rcases hx:x.idx with _ | ⟨y,r⟩
   ·simp[Ck]
   ·rw[hx]at h2 h4;have:r=[]:=V0.1 (by rw[Am]at h2;omega);subst this;have:=(h4 y (by simp)).2.2;simp[Ck];omega
  have he:Ct x.ex.row<=36:=by
   rcases h5 with⟨-,h5⟩ | ⟨-,h5⟩
   ·have:=h5.2.2;omega
   ·rw[h5,Fg];simp[Xp.zero,Ck]
  rw[Ju];cases hb:Bq x.op
  ·have hel:x.els=[]:=h8' fun e=>by rw[e]at hb;cases hb
   rw[h8 hb,hel];simp only[Bs,Ck];have:BK 0<=BK k:=Ab2 (A2 _);have:BK 0=100:=rfl;omega
  ·obtain⟨hk,⟨l1,b1⟩,⟨l2,b2⟩⟩:=h9 hb
   have hsum:∀ {l:List Sp},(∀ y∈l,SM (k - 1) y)->Ck (l.map Sp.row)<=l.length*BK (k - 1):=by
    intro l
    induction l with
    | nil=>intro _;simp[Ck]
    | cons y l ih=>
     intro h;have h1:=(h y (by simp)).2;have h2:=ih fun z hz=>h z (by simp[hz])
     rw[Ba,Ck,Am,D9];omega
   have g1:=hsum b1;have g2:=hsum b2;have g3:x.body.length*BK (k - 1)<=3*BK (k - 1):=Eo _ l1;have g4:x.els.length*BK (k - 1)<=1*BK (k - 1):=Eo _ l2
   have g5:BK k=100+4*BK (k - 1):=by
    cases k with
    | zero=>exact absurd rfl hk
    | succ k=>rfl
   omega
set_option maxHeartbeats 2000000 in
theorem W3{k:Nat}(hS:Vt k):MBl k:=by
 intro σ m b uH H nm h hH;have hm0:=H3 h;obtain⟨th,left,se,tx,ao,lp,m1⟩:=h.row;have n1:(H.map fun x=>[V.str x]).length=H.length:=Bl ..;obtain⟨u',s2,e1,g,hl,hB,hr,hc⟩:=Rd (bytes:=16) (row:=[.str nm]) h.h (by omega) rfl rfl (by rw[n1];omega);have g':GS s2 1 9 u' ((H++[nm]).map fun x=>[V.str x]):=by rw[Fb];exact g
 obtain⟨h2,w2⟩:=Akt h th left se tx ao lp hl hB g' hr (hc h.cl);have m2:s2[m]?=some (.row [.ptr b 0 0,.int .i64 th,.int .i64 left,.bool se,.bool tx,.bool ao,.bool lp,uH] 98 0 0):=(hB m hm0 fun e=>(h.hd m e).1 rfl).trans m1;obtain⟨hcc,hca⟩:=Id (Hg g);obtain⟨s3,e3⟩:∃ t,t=s2.set m (.row [.ptr b 0 0,.int .i64 th,.int .i64 left,.bool se,.bool tx,.bool ao,.bool lp,u'] 98 0 0):=⟨_,rfl⟩;rw[<-e3]at h2 w2;have m3:s3[m]?=some (.row [.ptr b 0 0,.int .i64 th,.int .i64 left,.bool se,.bool tx,.bool ao,.bool lp,u'] 98 0 0):=by rw[e3];exact B8 (by omega)
 obtain⟨r,s4,q4,h4,w4,l4,r4,mm4⟩:=Mp h2 2 2 rfl (by omega);have e4:IntKind.i64.wrap (1+(r:Int))=((1+r:Nat):Int):=by rw[Ef (by omega)];omega
 obtain⟨v,s5,q5,L,uH5,hO,hL,hn,h5,w5⟩:=hS s4 m b u' (H++[nm]) h4 (by rw[Ao,Hr];omega) (1+r) (by omega);have hcv:=Hg hO.1;obtain⟨th5,left5,se5,tx5,ao5,lp5,m5⟩:=h5.row;have g5:=h5.h;rw[Fb,Ba,Bs]at g5;obtain⟨u6,hsl,g6,hr6⟩:=Akg g5;rw[n1]at hsl;obtain⟨hcc6,hca6⟩:=Id (Hg g6);obtain⟨h6,w6⟩:=Akt (H':=H) h5 th5 left5 se5 tx5 ao5 lp5 (Ah _) (fun _ _ _=>rfl) g6 (fun j hj=>.inl (by rw[<-hr6];exact hj)) h5.cl;have hO6:=Alr hO w6;have w26:=Ee w2 (Ee w4 (Ee w5 w6));have l5:=Uz h5.h;rw[Bl,Ao,Hr]at l5;have e5:IntKind.i64.wrap (((H.length+1:Nat):Int) - 1)=(H.length:Int):=by rw[Ef (by omega)];omega
 have hO0:OL σ (s5.set m (.row [.ptr b 0 0,.int .i64 th5,.int .i64 left5,.bool se5,.bool tx5,.bool ao5,.bool lp5,u6] 98 0 0)) m v L:=⟨hO6.1,fun j hj=>⟨by have:=(hO6.2 j hj).1;have:=w2.1;have:=w4.1;omega,(hO6.2 j hj).2⟩⟩;refine Xj T132 rfl ?_;simp only[go_sem,m1,e1,m2,hcc,hca];rw[<-e3];simp only[go_sem,m3];refine Ac q4 ?_;simp only[go_sem,e4];refine Ac q5 ?_;simp only[go_sem];refine Ag (by kernel_rfl) ?_;simp only[go_sem,m5,l5,e5,hsl,hcc6,hca6];refine Ay ?_;simp only[go_sem];exact⟨v,rfl,⟨by cases v<;>simp[V.cellB]at hcv<;>rfl,Ch hO0.1⟩,⟨w26.1,h6.cl⟩,L,u6,hO0,hL,by omega,h6,w26⟩
