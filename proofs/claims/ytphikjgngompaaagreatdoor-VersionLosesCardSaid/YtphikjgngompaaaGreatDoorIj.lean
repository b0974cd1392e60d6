/- Walks: the maker of programs: what a statement's walk carries along. -/
import Derived.Test.YtphikjgngompaaaGreatDoorLl
set_option linter.all false
namespace Go.Proofs.YtphikjgngompaaaGreatDoor.KM
open Go
def W8(nm:List UInt8)(x:Xp):Fn TT PT 43 [.str nm,.agg (xR x)] (.agg [iV 1,iV 0,.str nm,.str [],.nils,iV x.op,iV x.n,.str x.nm,SL x.z x.t (x.l.map Xp.row),.nils,.nils]):=by
 have jM:=Dw x;rw[Bi x]at jM;refine Bj T43 rfl ?_;simp only[go_sem];exact F7 AB
def Jf{v:V}(h:v.cellB=true):v.cells=[v]/\[v].all V.cellB=true:=⟨by cases v<;>simp[V.cellB]at h<;>rfl,by grind⟩
def Bau{σ:St}{m b:Nat}{uH:V}{H:List (List UInt8)}(h:MKr σ m b uH H)(hH:H.length<=1000)(nm:List UInt8):∃ z:Bool,Th TT PT 120 [.ptr m 0 0,.str nm] σ (.bool z) σ:=by
 obtain⟨_,_,_,_,_,_,m1⟩:=h.row;obtain⟨z,hz⟩:=Anw h.h AA;have ha:=X7 z 0 H nm AA
 suffices hh:∃ v,Th TT PT 120 [.ptr m 0 0,.str nm] σ v σ/\∃ z,v=.bool z by
  grind
 refine Ay6 T120 rfl ?_;simp only[go_sem,m1];refine A0b (.cons (Vo hz (J5 h.h)) (.cons (Iv rfl) .nil)) ha AK ?_;simp only[go_sem];exact⟨_,rfl,⟨rfl,rfl⟩,⟨[],by simp⟩,_,rfl⟩
structure MW (σ s:St) (m b:Nat) (H:List (List UInt8)):Prop where
 hk:∃ uH,MKr s m b uH H
 fw:FW m σ s
 z:s[σ.length]?=some (sP 0 0 [] [])
 n:σ.length ∉ fp s m
 m0:m<σ.length
def Yu{σ s:St}{m b:Nat}{H:List (List UInt8)}(h:MW σ s m b H):σ.length<s.length:=(Al.1 h.z).1
theorem Xx{σ s s':St}{m b:Nat}{H:List (List UInt8)}{uH:V}(h:MW σ s m b H)(hk:MKr s' m b uH H)(w:FW m s s'):MW σ s' m b H:=by
 obtain⟨k,n⟩:=Je w h.z h.n;exact⟨⟨_,hk⟩,Fu h.fw w,k,n,h.m0⟩
def J8{σ s:St}{m b:Nat}{H:List (List UInt8)}(h:MW σ s m b H):∃ (th left:Int) (se tx ao lp:Bool) (uH:V),s[m]?=some (mO b th left se tx ao lp uH) /\
  ∀ (th left:Int) (se tx ao lp:Bool),MW σ (s.set m (mO b th left se tx ao lp uH)) m b H/\FW m s (s.set m (mO b th left se tx ao lp uH)):=by
 obtain⟨uH,hk⟩:=h.hk;obtain⟨th,left,se,tx,ao,lp,hr⟩:=hk.row;refine⟨th,left,se,tx,ao,lp,uH,hr,fun th left se tx ao lp=>?_⟩;obtain⟨h1,h2⟩:=Aza hk th left se tx ao lp
 grind[Xx]
def Xy{σ s:St}{m b:Nat}{H:List (List UInt8)}(h:MW σ s m b H)(n:Nat)(hn:n<=1000000000:=by omega):∃ (r:Nat) (s':St),Bx TT PT 40 [.ptr b 0 0,iV (n:Int)] s (iV (r:Int)) s'/\(r<n\/r=0)/\MW σ s' m b H/\FW m s s'/\s'[m]?=s[m]?:=by
 obtain⟨uH,hk⟩:=h.hk;obtain⟨r,s',q,h1,h2,-,h4,h5⟩:=Rf hk n n rfl hn
 grind[Xx]
def Vu{σ s:St}{m b:Nat}{H:List (List UInt8)}(h:MW σ s m b H)(d:Nat)(hd:d<=5:=by omega):∃ (x:Xp) (s':St),Th TT PT 117 [.ptr m 0 0,iV (d:Int)] s (.agg (xR x)) s'/\MX d x/\MW σ s' m b H/\FW m s s'/\Dc (.agg (xR x))=true:=by
 obtain⟨uH,hk⟩:=h.hk;obtain⟨_,s',q,⟨x,rfl,hx⟩,h1,h2⟩:=Aut 5 AA d hd s m b uH H hk
 grind[Dw,Bi,Xx]
def Xo{σ s:St}{m b:Nat}{H:List (List UInt8)}(h:MW σ s m b H)(hH:H.length<=1000)(nm:List UInt8):∃ z:Bool,Th TT PT 120 [.ptr m 0 0,.str nm] s (.bool z) s:=by
 obtain⟨uH,hk⟩:=h.hk;exact Bau hk hH nm
def Sn(σ s:St)(m:Nat)(u:V)(L:List Sp):Prop:=GS s 11 103 u (L.map Sp.row)/\∀ j∈u.refs,σ.length<j/\j ∉ fp s m
def R5{σ s s':St}{m:Nat}{u:V}{L:List Sp}(h:Sn σ s m u L)(hw:FW m s s'):Sn σ s' m u L:=by
 obtain⟨h1,h2⟩:=h;refine⟨Ii h1 fun i hi=>hw.2.1 i (C1 h1 i hi) (h2 i hi).2,fun j hj=>⟨(h2 j hj).1,fun hm=>?_⟩⟩;have:=C1 h1 j hj;rcases hw.2.2 j hm with h3 | h3
 .grind
 .omega
theorem Azn{s:St}{m j:Nat}{X:Ob}(hj:j≠m):fp (s.set j X) m=fp s m:=by
 grind[fp]
def Azo{σ s:St}{m j:Nat}{u:V}{L:List Sp}(X:Ob)(h:Sn σ s m u L)(hj:j ∉ u.refs)(hm:j≠m):Sn σ (s.set j X) m u L:=by
 obtain⟨h1,h2⟩:=h;exact⟨Ii h1 fun i hi=>Cc fun(e:j=i)=>hj (by grind),fun i hi=>⟨(h2 i hi).1,by grind[Azn]⟩⟩
def Aar{σ s:St}{m b k:Nat}{H:List (List UInt8)}(hS:MSs k)(h:MW σ s m b H)(hH:H.length+k<=100)(n:Nat)(hn:n<=1000000:=by omega):∃ (u:V) (L:List Sp) (s':St),Bx TT PT 41 [.ptr m 0 0,iV (k:Int),iV (n:Int)] s u s'/\Sn σ s' m u L/\(u.cells=[u]/\[u].all V.cellB=true/\u.cellB=true/\∀ j∈u.refs,s.length<=j)/\((∀ x∈L,SM k x)/\L.length<=n)/\MW σ s' m b H/\FW m s s':=by
 obtain⟨uH,hk⟩:=h.hk;obtain⟨u,s',q,L,qE,hO,hL,qD,h1,h2⟩:=hS s m b uH H hk hH n hn;have hc:=J5 hO.1;have hl:=Yu h;exact⟨u,L,s',q,⟨hO.1,fun j hj=>⟨by have:=(hO.2 j hj).1;omega,(hO.2 j hj).2⟩⟩,⟨(Jf hc).1,(Jf hc).2,hc,fun j hj=>(hO.2 j hj).1⟩,⟨hL,qD⟩,Xx h h1 h2,h2⟩
def MBl(k:Nat):Prop:=∀ (σ:St) (m b:Nat) (uH:V) (H:List (List UInt8)) (nm:List UInt8),MKr σ m b uH H->H.length+1+k<=100->∃ v σ',Bx TT PT 121 [.ptr m 0 0,.str nm,iV (k:Int)] σ v σ'/\∃ (L:List Sp) (qE:V),OL σ σ' m v L/\(∀ x∈L,SM k x)/\L.length<=2/\MKr σ' m b qE H/\FW m σ σ'
def Ae8{σ s:St}{m b k:Nat}{H:List (List UInt8)}(hS:MBl k)(h:MW σ s m b H)(hH:H.length+1+k<=100)(nm:List UInt8):∃ (u:V) (L:List Sp) (s':St),Bx TT PT 121 [.ptr m 0 0,.str nm,iV (k:Int)] s u s'/\Sn σ s' m u L/\(u.cells=[u]/\[u].all V.cellB=true/\u.cellB=true/\∀ j∈u.refs,s.length<=j)/\((∀ x∈L,SM k x)/\L.length<=2)/\MW σ s' m b H/\FW m s s':=by
 obtain⟨uH,hk⟩:=h.hk;obtain⟨u,s',q,L,qE,hO,hL,qD,h1,h2⟩:=hS s m b uH H nm hk hH;have hc:=J5 hO.1;have hl:=Yu h;exact⟨u,L,s',q,⟨hO.1,fun j hj=>⟨by have:=(hO.2 j hj).1;omega,(hO.2 j hj).2⟩⟩,⟨(Jf hc).1,(Jf hc).2,hc,fun j hj=>(hO.2 j hj).1⟩,⟨hL,qD⟩,Xx h h1 h2,h2⟩
def Afz{σ s:St}{m b:Nat}{H:List (List UInt8)}(h:MW σ s m b H)(X:Ob)(hX:∀ i∈X.refs,i<s.length+1):MW σ (s++[X]) m b H/\FW m s (s++[X])/\s.length ∉ fp (s++[X]) m/\(s++[X])[s.length]?=some X/\s.length≠m:=by
 obtain⟨uH,hk⟩:=h.hk;obtain⟨h1,h2⟩:=Aft hk [X] (Jd hk.cl hX);have hm:=Mp hk;refine⟨Xx h h1 h2,h2,fun hm=>?_,by simp,by omega⟩;rw[H6 h1,<-H6 hk]at hm;exact Agp (τ:=s) hk (Ak _) hm
def Blb{σ s:St}{m b j:Nat}{H:List (List UInt8)}(h:MW σ s m b H)(X:Ob)(hj:σ.length<j)(hn:j ∉ fp s m)(hX:∀ i∈X.refs,i<s.length):MW σ (s.set j X) m b H:=by
 obtain⟨uH,hk⟩:=h.hk;rw[H6 hk]at hn;simp only[Bp,not_or]at hn;refine⟨⟨uH,Ro hk (F8 hk.cl hX) (Cc hn.1) ?_ fun i hi=>Cc fun(e:j=i)=>hn.2.2 (by grind)⟩,Ayt h.fw AA h.m0,by rw[Cc AA];exact h.z,by rw[Azn hn.1];exact h.n,h.m0⟩;obtain⟨z,t,l,a,h1,h2⟩:=hk.tape;exact⟨z,t,l,a,by grind,h2⟩
def Blc{σ s:St}{m b:Nat}{u:V}{H:List (List UInt8)}{L:List Sp}(h:Sn σ s m u L)(hk:MW σ s m b H)(x:Sp)(hb:L.length<=1000000):∃ u' s',Dv 176 (11,103) u (.lst 1 [x.row]) s=some (u',s')/\Sn σ s' m u' (L++[x])/\(u'.cells=[u']/\[u'].all V.cellB=true/\u'.cellB=true)/\MW σ s' m b H:=by
 obtain⟨uH,qG⟩:=hk.hk;obtain⟨h1,h2⟩:=h;obtain⟨u',s',e1,g,hl,hB,hr,hc⟩:=Xv (bytes:=176) (row:=x.row) h1 AA (Oz x) (Hc x) (by grind);have hf:=H6 qG
 have nf:∀ i∈fp s m,i<s.length/\i ∉ u.refs:=fun i hi=>by
  refine⟨?_,fun e=>(h2 i e).2 hi⟩;rw[hf]at hi;simp only[Bp]at hi;rcases hi with rfl | rfl | hi
  .grind[Mp]
  .exact Pk qG.tape
  .exact C1 qG.h i hi
 have kp:∀ i∈fp s m,s'[i]?=s[i]?:=fun i hi=>hB i (nf i hi).1 (nf i hi).2
 have hm:s'[m]?=s[m]?:=kp m (by grind);have jR:s'[b]?=s[b]?:=kp b (by grind);have qZ:fp s' m=fp s m:=by unfold fp;rw[hm]
 refine⟨u',s',e1,⟨by grind,fun j hj=>?_⟩,⟨(Jf (J5 g)).1,(Jf (J5 g)).2,J5 g⟩,⟨uH,Ro qG (hc qG.cl) hm ?_ fun i hi=>kp i (by grind)⟩,Ayu hk.fw hk.m0 hl (fun j hj=>.inr (Adv (h2 j hj).1)) (fun j hj hn=>hB j hj hn) fun e=>(h2 m e).2 (by grind),by rw[hB _ (Yu hk) fun e=>by grind];exact hk.z,by rw[qZ];exact hk.n,hk.m0⟩
 .rw[qZ];rcases hr j hj with h3 | h3
  .grind
  .exact⟨by have:=Yu hk;omega,fun e=>by grind⟩
 .obtain⟨z,t,l,a,h1,h2⟩:=qG.tape;exact⟨z,t,l,a,by grind,h2⟩
def BSs(σ s:St)(m:Nat)(u:V)(L:List Sp):Prop:=(∃ z t,u=SL z t (L.map Sp.row))\/Sn σ s m u L
def A0x{σ s:St}{m:Nat}{u:V}{L:List Sp}(h:BSs σ s m u L)(X:Ob):∃ z t,OC (s.set σ.length X) u (SL z t (L.map Sp.row))/\u.cellB=true/\(∀ j∈u.refs,σ.length<j/\j ∉ fp s m/\j<s.length):=by
 rcases h with⟨z,t,rfl⟩ | ⟨h1,h2⟩
 .refine⟨z,t,Fj ?_,?_,by grind[O0]⟩
  .grind[Hq]
  .unfold SL;split<;>rfl
 .have h3:GS (s.set σ.length X) 11 103 u (L.map Sp.row):=Ii h1 fun i hi=>Cc (by grind)
  grind[Anw,J5,C1]
set_option maxHeartbeats 1000000 in
def Jl{σ s:St}{m b k:Nat}{H:List (List UInt8)}{e:Env}{uB uE:V}{cs:List V}{op line:Int}{nm arg:List UInt8}{iz:Bool}{it:Nat}{idx:List Xp}{ex:Xp}{LB LE:List Sp}(h:MW σ s m b H)(he:e.get 4=.ptr σ.length 0 0)(hB:BSs σ s m uB LB)(hE:BSs σ s m uE LE)
  (qS:cs=[iV op,iV line,.str nm,.str arg,SL iz it (idx.map Xp.row),iV ex.op,iV ex.n,.str ex.nm,SL ex.z ex.t (ex.l.map Xp.row),uB,uE]) (hS:∀ z t z' t',SM k ⟨op,line,nm,arg,iz,it,idx,ex,z,t,LB,z',t',LE⟩) :
  ∃ cs1 cs',Cd e (s.set σ.length (.row cs 103 0 0)) [.cell 4 11 false]=some (.agg cs1)/\(cs1.all V.cellB=true/\OCs (s.set σ.length (.row cs 103 0 0)) cs1 cs'/\cs'.all V.rowB=true)/\(σ.length<=(s.set σ.length (.row cs 103 0 0)).length/\Cl (s.set σ.length (.row cs 103 0 0))) /\
   ((∃ x:Sp,V.agg cs'=.agg x.row/\SM k x)/\(∃ qE,MKr (St.freeze (s.set σ.length (.row cs 103 0 0)) (Ag cs1)) m b qE H)/\FW m σ (St.freeze (s.set σ.length (.row cs 103 0 0)) (Ag cs1))):=by
 have hl:=Yu h;obtain⟨uH,hk⟩:=h.hk;obtain⟨z1,t1,o1,c1,r1⟩:=A0x hB (.row cs 103 0 0);obtain⟨z2,t2,o2,c2,r2⟩:=A0x hE (.row cs 103 0 0);have jj:V.rowB (SL iz it (idx.map Xp.row))=true:=Hq _ _ _;have jk:V.rowB (SL ex.z ex.t (ex.l.map Xp.row))=true:=Hq _ _ _
 have jh:Ag cs=uB.refs++uE.refs:=by
  rw[qS];simp only[Ag,O0,V.refs,Be,B3]
 have jF:∀ j∈Ag cs,σ.length<j/\j ∉ fp s m/\j<s.length:=fun j hj=>by
  grind
 have jc:Cl (s.set σ.length (.row cs 103 0 0)):=F8 hk.cl fun i hi=>(jF i hi).2.2
 have hn:=h.n;have jE:=H6 hk;rw[jE]at hn;simp only[Bp,not_or]at hn;have qL:(s.set σ.length (.row cs 103 0 0))[σ.length]?=some (.row cs 103 0 0):=Cm hl
 have je:∀ j,j∈fp s m->(St.freeze (s.set σ.length (.row cs 103 0 0)) (Ag cs))[j]?=s[j]?:=fun j hj=>by
  grind[Yc]
 have jf:=je m (by grind);refine⟨cs,(sW op line nm arg iz it idx ex.op ex.n ex.nm ex.z ex.t ex.l z1 t1 LB z2 t2 LE),Wl qL he (by simp_all),⟨?_,?_,?_⟩,⟨by grind,jc⟩,⟨⟨op,line,nm,arg,iz,it,idx,ex,z1,t1,LB,z2,t2,LE⟩,by rw[Fk],hS z1 t1 z2 t2⟩,⟨uH,Ro hk (Yt _ _ jc) jf ?_ fun i hi=>je i (by grind)⟩,?_⟩
 .rw[qS]
  have a1:V.cellB (SL iz it (idx.map Xp.row))=true:=by unfold SL;split<;>rfl
  have a2:V.cellB (SL ex.z ex.t (ex.l.map Xp.row))=true:=by unfold SL;split<;>rfl
  simp only[B5,Dd,a1,a2,c1,c2];rfl
 .conv=>arg 2;rw[qS]
  exact .cons (Fj rfl) (.cons (Fj rfl) (.cons (Fj rfl) (.cons (Fj rfl) (.cons (Fj jj) (.cons (Fj rfl) (.cons (Fj rfl) (.cons (Fj rfl) (.cons (Fj jk) (.cons o1 (.cons o2 .nil))))))))))
 .have b1:V.rowB (SL z1 t1 (LB.map Sp.row))=true:=Hq _ _ _;have b2:V.rowB (SL z2 t2 (LE.map Sp.row))=true:=Hq _ _ _;simp only[B5,Dd,jj,jk,b1,b2];rfl
 .obtain⟨z,t,l,a,h1,h2⟩:=hk.tape;exact⟨z,t,l,a,by grind,h2⟩
 .have hw:=h.fw;refine⟨by grind[Q7],fun j hj jH=>?_,fun j hj=>?_⟩
  .rw[Yc _ _ _ fun e=>by grind,Cc AA];exact hw.2.1 j hj jH
  .unfold fp at hj;rw[jf]at hj;exact hw.2.2 j hj
def Jq{k:Nat}{x:Sp}(h1:1<=x.op/\x.op<=15)(h2:x.idx.length<=1)(h3:x.op≠1->x.idx=[])(h4:∀ y∈x.idx,MX 0 y)(h5:(Em x.op=true/\MX 1 x.ex)\/(Em x.op=false/\x.ex=Xp.zero))(h6:(F6 x.op=true/\x.nm=[])\/(F6 x.op=false/\Mx x.nm))(h7:(x.op≠15/\x.arg=[])\/(x.op=15/\Mx x.arg))
  (h8:Bv x.op=false->x.body=[]) (qO:x.op≠2->x.els=[]) (h9:Bv x.op=true->k≠0/\(x.body.length<=3/\∀ y∈x.body,SM (k - 1) y)/\(x.els.length<=1/\∀ y∈x.els,SM (k - 1) y)) (jx:x.body.length+x.els.length<=2:=by simp;try omega):SM k x:=by
 have hv:∀ n:Int,(n=1\/n=2\/n=3\/n=14)->Em n=true:=by
  rintro n (rfl | rfl | rfl | rfl)<;>rfl
 have e0:EB 0=22:=rfl;have e1:EB 1=54:=rfl;have x0:Pv 0=12:=rfl;have x1:Pv 1=36:=rfl
 have l6:x.nm.length<=4:=by
  rcases h6 with⟨-,h⟩ | ⟨-,-,h⟩
  .rw[h];exact Ax _
  .exact h
 have l7:x.arg.length<=4:=by
  rcases h7 with⟨-,h⟩ | ⟨-,-,h⟩
  .rw[h];exact Ax _
  .exact h
 have li:(E7 x.idx).length<=56:=by
  refine C9 (Akr _) ?_
  cases hx:x.idx with
  | nil=>simp
  | cons a r=>
   have:=(h4 a (by rw[hx];exact B7)).2.1;simp only;omega
 have lx:x.op=1\/x.op=2\/x.op=3\/x.op=14->x.ex.txt.length<=118:=fun h=>by
  rcases h5 with⟨-,h5⟩ | ⟨h5,-⟩
  .have:=h5.2.1;omega
  .rw[hv _ h]at h5;cases h5
 have jd:(Du x).length<=302:=by
  have:=Azk l6 l7 li lx;unfold Du;rw[Ar]
  split<;>simp<;>omega
 have hds:x.hds=Du x::(Sp.hdss x.body++Sp.hdss x.els):=by cases x;rw[Sp.hds]
 have jJ:SX k x:=by
  have hz:1<=YB k:=by cases k<;>simp[YB]
  cases hb:Bv x.op
  .have e1:=h8 hb;have e2:x.els=[]:=qO fun e=>by rw[e]at hb;cases hb
   refine⟨by rw[Mg,e1,e2];simp[Sp.szs];omega,fun l hl=>?_⟩;rw[hds,e1,e2]at hl;simp[Sp.hdss]at hl;rw[hl];exact jd
  .obtain⟨hk,⟨-,b1⟩,-,b2⟩:=h9 hb;obtain⟨s1,s2⟩:=Agx fun y hy=>(b1 y hy).1.2
   obtain⟨s3,s4⟩:=Agx fun y hy=>(b2 y hy).1.2
   have hy:YB k=1+2*YB (k - 1):=by
    cases k with
    | zero=>exact absurd rfl hk
    | succ k=>rfl
   have jy:=E1 (YB (k - 1)) jx;rw[Oo]at jy;refine⟨by rw[Mg];omega,fun l hl=>?_⟩;rw[hds]at hl;rcases Bp.1 hl with rfl | hl
   .exact jd
   .rcases Ct.1 hl with hl | hl
    .exact s2 l hl
    .exact s4 l hl
 refine⟨⟨Bqj h1 h2 h3 (fun y hy=>⟨(h4 y hy).1,by have:=(h4 y hy).2.1;omega⟩) (fun h=>?_) (fun h=>?_) h6 h7 h8 qO fun h=>?_,jJ⟩,?_⟩
 .rcases h5 with⟨-,h5⟩ | ⟨h5,-⟩
  .exact⟨h5.1,by have:=h5.2.1;omega⟩
  .rw[hv _ h]at h5;cases h5
 .rcases h5 with⟨h5,-⟩ | ⟨-,h5⟩
  .rw[h]at h5;cases h5
  .rw[h5];exact⟨rfl,rfl,rfl,rfl⟩
 .obtain⟨a,b,c⟩:=h9 h;exact⟨a,b.1,c.1,fun y hy=>(b.2 y hy).1.1,fun y hy=>(c.2 y hy).1.1⟩
 .have hn:x.nm.length<=4:=by
   rcases h6 with⟨-,h⟩ | ⟨-,h⟩
   .rw[h];simp
   .exact h.2
  have ha:x.arg.length<=4:=by
   rcases h7 with⟨-,h⟩ | ⟨-,h⟩
   .rw[h];simp
   .exact h.2
  have hi:Cz (x.idx.map Xp.row)<=12:=by
   rcases hx:x.idx with _ | ⟨y,r⟩
   .simp[Cz]
   .rw[hx]at h2 h4;have:r=[]:=U0.1 (by rw[Ao]at h2;omega);subst this;have:=(h4 y AE).2.2;simp[Cz];omega
  have he:C5 x.ex.row<=36:=by
   rcases h5 with⟨-,h5⟩ | ⟨-,h5⟩
   .have:=h5.2.2;omega
   .rw[h5,G9];simp[Xp.zero,Cz]
  rw[N0];cases hb:Bv x.op
  .have jD:x.els=[]:=qO fun e=>by rw[e]at hb;cases hb
   rw[h8 hb,jD];simp only[Bz,Cz];have:BK 0<=BK k:=Al3 (Ax _);have:BK 0=100:=rfl;omega
  .obtain⟨hk,⟨l1,b1⟩,⟨l2,b2⟩⟩:=h9 hb
   have qM:∀ {l:List Sp},(∀ y∈l,SM (k - 1) y)->Cz (l.map Sp.row)<=l.length*BK (k - 1):=by
    intro l
    induction l with
    | nil=>intro _;simp[Cz]
    | cons y l ih=>
     intro h;have h1:=(h y AE).2;have h2:=ih fun z hz=>h z (by simp[hz])
     rw[Az,Cz,Ao,Gy];omega
   have g1:=qM b1;have g2:=qM b2;have g3:x.body.length*BK (k - 1)<=3*BK (k - 1):=E1 _ l1;have g4:x.els.length*BK (k - 1)<=1*BK (k - 1):=E1 _ l2
   have g5:BK k=100+4*BK (k - 1):=by
    cases k with
    | zero=>exact absurd rfl hk
    | succ k=>rfl
   omega
set_option maxHeartbeats 2000000 in
def Ael{k:Nat}(hS:MSs k):MBl k:=by
 intro σ m b uH H nm h hH;have qT:=Mp h;obtain⟨th,left,se,tx,ao,lp,m1⟩:=h.row;have n1:(H.map fun x=>[V.str x]).length=H.length:=Au ..;obtain⟨u',s2,e1,g,hl,hB,hr,hc⟩:=Xv (bytes:=16) (row:=[.str nm]) h.h AA rfl rfl AA;have g':GS s2 1 9 u' ((H++[nm]).map fun x=>[V.str x]):=by rw[F0];exact g
 obtain⟨h2,w2⟩:=Azm h th left se tx ao lp hl hB g' hr (hc h.cl);have m2:s2[m]?=some (mO b th left se tx ao lp uH):=(hB m qT fun e=>(h.hd m e).1 rfl).trans m1;obtain⟨jB,jA⟩:=Jf (J5 g);obtain⟨s3,e3⟩:∃ t,t=s2.set m (mO b th left se tx ao lp u'):=⟨_,rfl⟩;rw[<-e3]at h2 w2;have m3:s3[m]?=some (mO b th left se tx ao lp u'):=by rw[e3];exact Cm AA
 obtain⟨r,s4,q4,h4,w4,l4,r4,jV⟩:=Rf h2 2 2 rfl AA;have e4:IntKind.i64.wrap (1+(r:Int))=((1+r:Nat):Int):=by rw[Cs AA];omega
 obtain⟨v,s5,q5,L,ka,hO,hL,hn,h5,w5⟩:=hS s4 m b u' (H++[nm]) h4 (by grind) (1+r) AA;have jC:=J5 hO.1;obtain⟨qn,qb,qm,qu,qs,qt,m5⟩:=h5.row;have g5:=h5.h;rw[F0,Az,Bz]at g5;obtain⟨u6,ji,g6,jS⟩:=Ays g5;rw[n1]at ji;obtain⟨qR,qQ⟩:=Jf (J5 g6);obtain⟨h6,w6⟩:=Azm (H':=H) h5 qn qb qm qu qs qt (Ak _) (fun _ _ _=>rfl) g6 (fun j hj=>.inl (by grind)) h5.cl;have qP:=A0w hO w6;have jp:=Fu w2 (Fu w4 (Fu w5 w6));have l5:=Abo h5.h;rw[Au,Ar,Q4]at l5;have e5:IntKind.i64.wrap (((H.length+1:Nat):Int) - 1)=(H.length:Int):=by rw[Cs AA];omega
 have jb:OL σ (s5.set m (mO b qn qb qm qu qs qt u6)) m v L:=⟨qP.1,fun j hj=>⟨by have:=(qP.2 j hj).1;grind,(qP.2 j hj).2⟩⟩;refine Ae7 T121 rfl ?_;simp only[go_sem,m1,e1,m2,jB,jA];rw[<-e3];simp only[go_sem,m3];refine Aa q4 ?_;simp only[go_sem,e4];refine Aa q5 ?_;simp only[go_sem];refine Af AD ?_;simp only[go_sem,m5,l5,e5,ji,qR,qQ];refine Bc ?_;simp only[go_sem];exact⟨v,rfl,⟨by cases v<;>simp[V.cellB]at jC<;>rfl,C1 jb.1⟩,⟨jp.1,h6.cl⟩,L,u6,jb,hL,by omega,h6,jp⟩
def Hy{l:List UInt8}(h:(Bm l&&decide (l.length<=4))=true):Mx l:=by
 simp only[Ai,decide_eq_true_eq]at h;exact h
def Gw(nm:List UInt8):Xp:=⟨2,0,nm,true,0,[]⟩
def Gc(n:Int):Xp:=⟨1,n,[],true,0,[]⟩
def Nh(op:Int)(nm:List UInt8)(n:Int):Xp:=⟨op,0,[],true,1,[Gw nm,Gc n]⟩
def A12(op:Int)(nm:List UInt8)(n:Int):Fn TT PT 118 [iV op,.agg [iV 2,iV 0,.str nm,.nils],.agg [iV 1,iV n,.str [],.nils]] (.agg [iV op,iV 0,.str [],.lst 1 [[iV 2,iV 0,.str nm,.nils],[iV 1,iV n,.str [],.nils]]]):=by
 have h:=Aw8 op (Gw nm) (Gc n);rw[Bi ⟨op,0,[],true,1,[Gw nm,Gc n]⟩]at h;simp only[Az,Bz]at h;rw[Bi (Gw nm),Bi (Gc n)]at h;exact h
def Amz(op:Int)(nm:List UInt8)(n:Int):(Nh op nm n).l.map Xp.row=[[iV 2,iV 0,.str nm,.nils],[iV 1,iV n,.str [],.nils]]:=by
 unfold Nh;simp only[Az,Bz];rw[Bi (Gw nm),Bi (Gc n)];rfl
def Bql{nm:List UInt8}(h:Mx nm)(d:Nat):MX d (Gw nm):=by
 refine⟨.name h.1,?_,?_⟩
 .rw[show(Gw nm).txt=nm by unfold Gw;rw[Ek];rfl];have:=Ahk d;have:=h.2;omega
 .unfold Gw;rw[G9];have:=Agr d;have:=h.2;simp[Cz];omega
def A0y{op:Int}(ho:6<=op/\op<=18):MX 1 (Nh op [98] 2)/\MX 1 (Nh op [98] 1):=by
 have jl:∀ n:Int,(n=1\/n=2)->MX 1 (Nh op [98] n):=by
  intro n hn;have hx:ShE (Gw [98]):=.name AD;have hy:ShE (Gc n):=.num AA;have t1:(Gw [98]).txt=[98]:=by unfold Gw;rw[Ek];rfl
  have t2:(Gc n).txt.length=1:=by
   rcases hn with rfl | rfl<;>(unfold Gc;rw[Ek];rfl)
  refine⟨.bin ho hx hy,?_,?_⟩
  .unfold Nh;rw[Ek];have h2:=(O2 ((Gw [98]).op,(Gw [98]).txt) (Gg op)).2;have jz:=(O2 ((Gc n).op,(Gc n).txt) (Bf op+1)).2;simp only at h2 jz;have h3:(B0 op).length<=2:=Axa _
   have h0:Dt op 0 [] [((Gw [98]).op,(Gw [98]).txt),((Gc n).op,(Gc n).txt)]=Dg ((Gw [98]).op,(Gw [98]).txt) (Gg op)++32::(B0 op++32::Dg ((Gc n).op,(Gc n).txt) (Bf op+1)):=by
    unfold Dt;rw[if_neg AA,if_neg AA]
   have e1:EB 1=54:=rfl;have t3:(Gw [98]).txt.length=1:=by rw[t1];rfl
   simp only[Az,Bz,h0,Ar,Ao];omega
  .have x1:Pv 1=36:=rfl;rw[G9];unfold Nh;simp only[Az,Bz,Cz,Di];rw[G9,G9,x1];unfold Gw Gc;simp[Cz]
 exact⟨jl 2 (.inr rfl),jl 1 (.inl rfl)⟩
def My(nm:List UInt8)(x:Xp):Sp:=⟨1,0,nm,[],true,0,[],x,true,0,[],true,0,[]⟩
def Agy(nm:List UInt8)(x:Xp):(My nm x).row=[iV 1,iV 0,.str nm,.str [],.nils,iV x.op,iV x.n,.str x.nm,SL x.z x.t (x.l.map Xp.row),.nils,.nils]:=by
 rw[Fk];rfl
def Am0{k:Nat}{nm:List UInt8}{x:Xp}(hn:Mx nm)(hx:MX 1 x)(z:Bool)(t:Nat)(z':Bool)(t':Nat):SM k ⟨1,0,nm,[],true,0,[],x,z,t,[],z',t',[]⟩:=
 Jq AE AE (fun h=>absurd rfl h) AE (.inl ⟨rfl,hx⟩) (.inr ⟨rfl,hn⟩) (.inl ⟨by simp,rfl⟩) (fun _=>rfl) (fun _=>rfl) (fun h=>by have h:false=true:=h;cases h)
def An4{k:Nat}{nm:List UInt8}{x:Xp}(hn:Mx nm)(hx:MX 1 x):SM k (My nm x):=
 Jq (by simp[My]) (by simp[My]) (fun h=>absurd rfl h) (by simp[My]) (.inl ⟨rfl,hx⟩) (.inr ⟨rfl,hn⟩) (.inl ⟨by simp[My],rfl⟩) (fun _=>rfl) (fun _=>rfl) (fun h=>by have h:false=true:=h;cases h) (by simp[My])
def Mz(op:Int)(nm:List UInt8):Sp:=⟨op,0,nm,[],true,0,[],Xp.zero,true,0,[],true,0,[]⟩
def Yd(op:Int)(nm:List UInt8):(Mz op nm).row=(sZ op 0 nm []):=by
 rw[Fk];rfl
def Ace{k:Nat}{op:Int}{nm:List UInt8}(ho:op=9\/op=10\/op=11\/op=12\/op=13)(hn:Mx nm):SM k (Mz op nm):=by
 rcases ho with rfl | rfl | rfl | rfl | rfl
 all_goals exact Jq (by simp[Mz]) (by simp[Mz]) (fun _=>rfl) (by simp[Mz]) (.inr ⟨rfl,rfl⟩) (.inr ⟨rfl,hn⟩) (.inl ⟨by simp[Mz],rfl⟩) (fun _=>rfl) (fun _=>rfl) (fun h=>by have h:false=true:=h;cases h) (by simp[Mz])
set_option maxRecDepth 20000 in
set_option maxHeartbeats 16000000 in
def Aqu{k:Nat}(hk:k<=20)(ih:∀ j,j<k->MSs j):MSt k:=by
 intro σ m b uH H h hH;have qT:=Mp h
 suffices hh:∃ v σ',Th TT PT 69 [.ptr m 0 0,iV (k:Int)] σ v σ'/\((∃ x:Sp,v=.agg x.row/\SM k x)/\(∃ qE,MKr σ' m b qE H)/\FW m σ σ') from hh
 refine Bat T69 rfl ?_;have e3:k≠0->IntKind.i64.wrap ((k:Int) - 1)=((k - 1:Nat):Int):=fun h0=>by rw[Cs AA];omega
 refine Is (fun e s=>e=[(0,.ptr m 0 0),(1,iV (k:Int)),(4,.ptr σ.length 0 0)]/\MW σ s m b H) ?_ ?_
 .intro k' qc;simp only[go_sem];obtain⟨a1,a2⟩:=Aft h [sP 0 0 [] []] (Jg h.cl rfl);exact qc _ _ ⟨rfl,⟨_,a1⟩,a2,by simp,fun hm=>by rw[H6 a1,<-H6 h]at hm;exact Agp (τ:=σ) h (Ak _) hm,qT⟩
 clear h uH;rintro e s ⟨rfl,h1⟩;refine Is (fun e s=>e=[(0,.ptr m 0 0),(1,iV (k:Int)),(4,.ptr σ.length 0 0)]/\MW σ s m b H) ?_ ?_
 .intro k' qc;obtain⟨th,left,se,tx,ao,lp,vH,m1,ho⟩:=J8 h1;simp only[go_sem,m1];exact qc _ _ ⟨rfl,(ho _ _ _ _ _ _).1⟩
 clear h1 s;rintro e s ⟨rfl,h1⟩;refine Is (fun e s=>∃ r:Nat,r<18/\e=[(0,.ptr m 0 0),(1,iV (k:Int)),(4,.ptr σ.length 0 0),(5,iV (r:Int))]/\MW σ s m b H) ?_ ?_
 .intro k' qc;obtain⟨th,left,se,tx,ao,lp,vH,m1,-⟩:=J8 h1;obtain⟨r,s2,q,hr,h2,w2,mm⟩:=Xy h1 18;simp only[go_sem,m1];refine Aa q ?_;simp only[go_sem];exact qc _ _ ⟨r,by omega,rfl,h2⟩
 clear h1 s;rintro e s ⟨r,hr,rfl,h1⟩;refine Is (fun e s=>∃ nb:Bool,(nb=true->k≠0)/\e=[(0,.ptr m 0 0),(1,iV (k:Int)),(4,.ptr σ.length 0 0),(5,iV (r:Int)),(6,.bool nb)]/\MW σ s m b H) ?_ ?_
 .intro k' qc;obtain⟨th,left,se,tx,ao,lp,vH,m1,-⟩:=J8 h1;by_cases qd:k=0
  .have f1:((0:Int)<(k:Int))=False:=eq_false AA;simp only[go_sem,gt_iff_lt,f1];exact qc _ _ ⟨false,(fun h=>by cases h),rfl,h1⟩
  have f1:((0:Int)<(k:Int))=True:=eq_true AA;by_cases hl:0<left
  .have f2:((0:Int)<left)=True:=eq_true hl;cases tx
   .simp only[go_sem,gt_iff_lt,f1,f2,m1,A2];exact qc _ _ ⟨true,fun _=>qd,rfl,h1⟩
   .simp only[go_sem,gt_iff_lt,f1,f2,m1,A0];exact qc _ _ ⟨false,(fun h=>by cases h),rfl,h1⟩
  .have f2:((0:Int)<left)=False:=eq_false hl;simp only[go_sem,gt_iff_lt,f1,f2,m1];exact qc _ _ ⟨false,(fun h=>by cases h),rfl,h1⟩
 clear h1 s;rintro e s ⟨nb,qy,rfl,h1⟩;have qF:H.length<=1000:=by omega
 refine Is (fun e s=>e=[(0,.ptr m 0 0),(1,iV (k:Int)),(4,.ptr σ.length 0 0)]/\MW σ s m b H) ?_ ?_;rotate_left
 .clear h1 s;rintro e s ⟨rfl,h1⟩;obtain⟨x,s2,q2,hx,h2,w2,xs⟩:=Vu h1 1;simp only[go_sem];refine Cb q2 ?_;simp only[go_sem];refine Ab (W8 [120] x) AB ?_;simp only[go_sem,h2.z];exact Jl (op:=1) (line:=0) (nm:=[120]) (arg:=[]) (iz:=true) (it:=0) (idx:=[]) (ex:=x) (LB:=[]) (LE:=[]) h2 rfl (.inl ⟨true,0,rfl⟩) (.inl ⟨true,0,rfl⟩) AK fun _ _ _ _=>Am0 (Hy AD) hx _ _ _ _
 intro k' qc;rcases(show r<4\/r=4\/r=5\/r=6\/r=7\/r=8\/r=9\/r=10\/r=11\/r=12\/r=13\/r=14\/r=15\/r=16\/r=17 by omega) with h4 | rfl | rfl | rfl | rfl | rfl | rfl | rfl | rfl | rfl | rfl | rfl | rfl | rfl | rfl
 .obtain⟨nm,hn,qU⟩:=Aao [[120],[121],[120],[118]] AD (j:=r) AQ;simp only[Az,Bz]at hn;have f1:((r:Int)<4)=True:=eq_true AA;obtain⟨x,s2,q2,hx,h2,w2,xs⟩:=Vu h1 1;simp only[go_sem,f1];refine Af AD ?_;simp only[go_sem,hn];refine Ia (Agq q2) ?_;simp only[go_sem];refine Bg (W8 nm x) (by simp only[go_sem,xs]) ?_;simp only[go_sem,h2.z];refine Bc ?_;simp only[go_sem];exact Jl (op:=1) (line:=0) (nm:=nm) (arg:=[]) (iz:=true) (it:=0) (idx:=[]) (ex:=x) (LB:=[]) (LE:=[]) h2 rfl (.inl ⟨true,0,rfl⟩) (.inl ⟨true,0,rfl⟩) AK fun _ _ _ _=>Am0 qU hx _ _ _ _
 .obtain⟨th,left,se,tx,ao,lp,vH,m1,-⟩:=J8 h1;obtain⟨j,s2,q2,hj,h2,w2,jU⟩:=Xy h1 2;obtain⟨nm,hn,qU⟩:=Aao [[97],[98]] AD (j:=j) AQ;simp only[Az,Bz]at hn;obtain⟨x,s3,q3,hx,h3,w3,xs⟩:=Vu h2 1;have jO:Bx TT PT 40 [.ptr b 0 0,iV 2] s (iV (j:Int)) s2:=q2;simp only[go_sem,C4,Int.reduceLT,Int.reduceBEq];refine Af AD ?_;simp only[go_sem,m1];refine Ia jO ?_;simp only[go_sem,hn];refine wgR ?_;simp only[go_sem];have jP:Th TT PT 117 [.ptr m 0 0,iV 1] s2 (.agg (xR x)) s3:=q3;refine Ia (Agq jP) ?_;simp only[go_sem];refine Bg (W8 nm x) (by simp only[go_sem,xs]) ?_;simp only[go_sem,h3.z];refine Bc ?_;simp only[go_sem];exact Jl (op:=1) (line:=0) (nm:=nm) (arg:=[]) (iz:=true) (it:=0) (idx:=[]) (ex:=x) (LB:=[]) (LE:=[]) h3 rfl (.inl ⟨true,0,rfl⟩) (.inl ⟨true,0,rfl⟩) AK fun _ _ _ _=>Am0 qU hx _ _ _ _
 .obtain⟨y,s2,q2,hy,h2,w2,ys⟩:=Vu h1 0;obtain⟨x,s3,q3,hx,h3,w3,xs⟩:=Vu h2 1;have jN:=Bi y;simp only[go_sem,C4,Int.reduceLT,Int.reduceBEq];refine Cb q2 ?_;simp only[go_sem];refine Cb q3 ?_;simp only[go_sem,h3.z];exact Jl (op:=1) (line:=0) (nm:=[113]) (arg:=[]) (iz:=true) (it:=1) (idx:=[y]) (ex:=x) (LB:=[]) (LE:=[]) h3 rfl (.inl ⟨true,0,rfl⟩) (.inl ⟨true,0,rfl⟩) (by simp only[Az,Bz,jN];rfl) fun _ _ _ _=>Jq AE AE (fun h=>absurd rfl h) (by simp;exact hy) (.inl ⟨rfl,hx⟩) (.inr ⟨rfl,Hy AD⟩) (.inl ⟨by simp,rfl⟩) (fun _=>rfl) (fun _=>rfl) (fun h=>by have h:false=true:=h;cases h)
 .by_cases qd:k=0
  .have f1:((0:Int)<(k:Int))=False:=eq_false AA;simp only[go_sem,C4,Int.reduceLT,Int.reduceBEq,gt_iff_lt,f1];exact qc _ _ ⟨rfl,h1⟩
  have f1:((0:Int)<(k:Int))=True:=eq_true AA;have ek:=e3 qd;obtain⟨x,s2,q2,hx,h2,w2,xs⟩:=Vu h1 1;obtain⟨u3,L3,s3,q3,b3,⟨qo,qp,qj,r3⟩,⟨L31,L32⟩,h3,w3⟩:=Aar (ih (k - 1) AA) h2 AA 1;obtain⟨jg,jq,jo,qV,qX⟩:=Afz h3 (.row [iV 2,iV 0,.str [],.str [],.nils,iV x.op,iV x.n,.str x.nm,SL x.z x.t (x.l.map Xp.row),u3,.nils] 103 0 0) (by simp only[Ob.refs,Ag,O0,V.refs,Be,B3];exact fun i hi=>U2 (C1 b3.1 i hi));obtain⟨s4,ja⟩:∃ t,t=s3++[Ob.row [iV 2,iV 0,.str [],.str [],.nils,iV x.op,iV x.n,.str x.nm,SL x.z x.t (x.l.map Xp.row),u3,.nils] 103 0 0]:=⟨_,rfl⟩;rw[<-ja]at jg jq jo qV;have h4:=jg;have b4:=R5 b3 jq;obtain⟨th,left,se,tx,ao,lp,vH,m4,-⟩:=J8 h4;obtain⟨j,s5,q5,hj,h5,w5,jW⟩:=Xy h4 2;have b5:=R5 b4 w5;obtain⟨k5,n5⟩:=Je w5 qV jo;simp only[go_sem,C4,Int.reduceLT,Int.reduceBEq,gt_iff_lt,f1];refine Cb q2 ?_;simp only[go_sem,ek];refine Aa q3 ?_;simp only[go_sem,qo,qp,qj];rw[<-ja];simp only[go_sem,m4];refine Aa q5 ?_;by_cases j1:j=1
  .subst j1;obtain⟨u6,L6,s6,q6,b6,⟨ju,jv,jw,r6⟩,⟨L61,L62⟩,h6,w6⟩:=Aar (ih (k - 1) AA) h5 AA 1;obtain⟨k6,n6⟩:=Je w6 k5 n5;have qW:=R5 b5 w6;have jI:σ.length<s3.length:=Yu h3;have jG:s3.length<s6.length:=(Al.1 k6).1;have jK:s3.length ∉ u3.refs:=fun e=>by have:=C1 b3.1 _ e;omega
   have jL:s3.length ∉ u6.refs:=fun e=>by
    have:=r6 _ e;have:=w5.1;have:=(Al.1 qV).1;omega
   have h7:=Blb h6 (.row [iV 2,iV 0,.str [],.str [],.nils,iV x.op,iV x.n,.str x.nm,SL x.z x.t (x.l.map Xp.row),u3,u6] 103 0 0) jI n6 (by
    simp only[Ob.refs,Ag,O0,V.refs,Be,B3];intro i hi;rcases Ct.1 hi with hi | hi
    .exact C1 qW.1 i hi
    .exact C1 b6.1 i hi)
   have k7:(s6.set s3.length (.row [iV 2,iV 0,.str [],.str [],.nils,iV x.op,iV x.n,.str x.nm,SL x.z x.t (x.l.map Xp.row),u3,u6] 103 0 0))[s3.length]?=some (.row [iV 2,iV 0,.str [],.str [],.nils,iV x.op,iV x.n,.str x.nm,SL x.z x.t (x.l.map Xp.row),u3,u6] 103 0 0):=Cm jG;have z7:=h7.z;have js:=Azo (.row [iV 2,iV 0,.str [],.str [],.nils,iV x.op,iV x.n,.str x.nm,SL x.z x.t (x.l.map Xp.row),u3,u6] 103 0 0) qW jK qX;have jt:=Azo (.row [iV 2,iV 0,.str [],.str [],.nils,iV x.op,iV x.n,.str x.nm,SL x.z x.t (x.l.map Xp.row),u3,u6] 103 0 0) b6 jL qX;simp only[go_sem,C4,Int.reduceBEq,ek];refine Aa q6 ?_;simp only[go_sem,k6,ju,jv,jw,qj,k7,z7];exact Jl (op:=2) (line:=0) (nm:=[]) (arg:=[]) (iz:=true) (it:=0) (idx:=[]) (ex:=x) (LB:=L3) (LE:=L6) h7 rfl (.inr js) (.inr jt) AK fun _ _ _ _=>Jq AE AE (fun _=>rfl) AE (.inl ⟨rfl,hx⟩) (.inl ⟨rfl,rfl⟩) (.inl ⟨by simp,rfl⟩) (fun h=>by have h:true=false:=h;cases h) (fun h=>absurd rfl h) (fun _=>⟨qd,⟨C9 L32 AA,L31⟩,⟨L62,L61⟩⟩)
  .have fj:((j:Int)==1)=false:=by simp;omega
   simp only[go_sem,fj,k5,h5.z,qj];exact Jl (op:=2) (line:=0) (nm:=[]) (arg:=[]) (iz:=true) (it:=0) (idx:=[]) (ex:=x) (LB:=L3) (LE:=[]) h5 rfl (.inr b5) (.inl ⟨true,0,rfl⟩) AK fun _ _ _ _=>Jq AE AE (fun _=>rfl) AE (.inl ⟨rfl,hx⟩) (.inl ⟨rfl,rfl⟩) (.inl ⟨by simp,rfl⟩) (fun h=>by have h:true=false:=h;cases h) (fun h=>absurd rfl h) (fun _=>⟨qd,⟨C9 L32 AA,L31⟩,⟨by simp,by simp⟩⟩)
 .by_cases qd:k=0
  .have f1:((0:Int)<(k:Int))=False:=eq_false AA;simp only[go_sem,C4,Int.reduceLT,Int.reduceBEq,gt_iff_lt,f1];exact qc _ _ ⟨rfl,h1⟩
  have f1:((0:Int)<(k:Int))=True:=eq_true AA;have ek:=e3 qd;obtain⟨qf,qa,qi,qk,qe,qg,qr,m1,qq⟩:=J8 h1;obtain⟨h2,w2⟩:=qq qf qa qi qk qe true;obtain⟨s2,ql⟩:∃ t,t=s.set m (mO b qf qa qi qk qe true qr):=⟨_,rfl⟩;rw[<-ql]at h2 w2;obtain⟨u3,L3,s3,q3,b3,⟨qo,qp,qj,r3⟩,⟨L31,L32⟩,h3,w3⟩:=Aar (ih (k - 1) AA) h2 AA 1;obtain⟨u4,s4,ha,b4,⟨qI,qJ,qv⟩,h4⟩:=Blc b3 h3 (My [98] (Nh 6 [98] 1)) AA;rw[Agy,Amz]at ha;simp only[Nh,SL,reduceCtorEq,and_false,true_and,if_false]at ha;have qH:=W8 [98] (Nh 6 [98] 1);rw[Amz]at qH;simp only[Nh,SL,reduceCtorEq,and_false,true_and,if_false]at qH;obtain⟨qz,qC,qB,qA,qY⟩:=Afz h4 (.row [iV 3,iV 0,.str [],.str [],.nils,iV 13,iV 0,.str [],.lst 1 [[iV 2,iV 0,.str [98],.nils],[iV 1,iV 2,.str [],.nils]],u4,.nils] 103 0 0) (by simp only[Ob.refs,Ag,O0,V.refs,Be,B3];exact fun i hi=>U2 (C1 b4.1 i hi));obtain⟨s5,qw⟩:∃ t,t=s4++[Ob.row [iV 3,iV 0,.str [],.str [],.nils,iV 13,iV 0,.str [],.lst 1 [[iV 2,iV 0,.str [98],.nils],[iV 1,iV 2,.str [],.nils]],u4,.nils] 103 0 0]:=⟨_,rfl⟩;rw[<-qw]at qz qC qB qA;have h5:=qz;have b5:=R5 b4 qC;obtain⟨qn,qb,qm,qu,qs,qt,qN,m5,qK⟩:=J8 h5;obtain⟨h6,w6⟩:=qK qn qb qm qu qs qg;obtain⟨s6,qx⟩:∃ t,t=s5.set m (mO b qn qb qm qu qs qg qN):=⟨_,rfl⟩;rw[<-qx]at h6 w6;have b6:=R5 b5 w6;obtain⟨k6,n6⟩:=Je w6 qA qB;simp only[go_sem,C4,Int.reduceLT,Int.reduceBEq,gt_iff_lt,f1,m1];rw[<-ql];refine Ab (Ahl _) AK ?_;simp only[go_sem];refine Ab (Ah4 _) AK ?_;simp only[go_sem];refine Ab (A12 _ _ _) AK ?_;simp only[go_sem,ek];refine Aa q3 ?_;simp only[go_sem];refine Ab (Ahl _) AK ?_;simp only[go_sem];refine Ab (Ah4 _) AK ?_;simp only[go_sem];refine Ab (A12 _ _ _) AK ?_;simp only[go_sem];refine Ab qH AK ?_;simp only[go_sem,ha,qI,qJ,qv];rw[<-qw];simp only[go_sem,m5];rw[<-qx];simp only[go_sem,k6,h6.z,qv]
  exact Jl (op:=3) (line:=0) (nm:=[]) (arg:=[]) (iz:=true) (it:=0) (idx:=[]) (ex:=Nh 13 [98] 2) (LB:=(L3++[My [98] (Nh 6 [98] 1)])) (LE:=[]) h6 rfl (.inr b6) (.inl ⟨true,0,rfl⟩) (by rw[Amz];rfl) fun _ _ _ _=>Jq AE AE (fun _=>rfl) AE (.inl ⟨rfl,(A0y AA).1⟩) (.inl ⟨rfl,rfl⟩) (.inl ⟨by simp,rfl⟩) (fun h=>by have h:true=false:=h;cases h) (fun _=>rfl) (fun _=>⟨qd,⟨C9 (Nat.le_of_eq Ar) (by rw[Q4];omega),fun y hy=>(Ct.1 hy).elim (L31 y) fun hy=>by rw[F5.1 hy];exact An4 (Hy AD) (A0y AA).2⟩,⟨by simp,by simp⟩⟩)
 .cases nb
  .simp only[go_sem,C4,Int.reduceLT,Int.reduceBEq];exact qc _ _ ⟨rfl,h1⟩
  have qd:=qy rfl;have ek:=e3 qd;obtain⟨z,qh⟩:=Xo h1 qF [109];simp only[go_sem,C4,Int.reduceLT,Int.reduceBEq,Int.reduceSub];refine Cb qh ?_;cases z;rotate_left
  .simp only[go_sem,C4,Int.reduceLT,Int.reduceBEq,A0];exact qc _ _ ⟨rfl,h1⟩
  obtain⟨u3,L3,s3,q3,b3,⟨qo,qp,qj,r3⟩,⟨L31,L32⟩,h3,w3⟩:=Ae8 (Ael (ih (k - 1) AA)) h1 AA [109];simp only[go_sem,C4,Int.reduceLT,Int.reduceBEq,Int.reduceSub,A2,ek];refine Aa q3 ?_;simp only[go_sem,qo,qp,qj,h3.z];exact Jl (op:=4) (line:=0) (nm:=[109]) (arg:=[]) (iz:=true) (it:=0) (idx:=[]) (ex:=Xp.zero) (LB:=L3) (LE:=[]) h3 rfl (.inr b3) (.inl ⟨true,0,rfl⟩) AK fun _ _ _ _=>Jq AE AE (fun _=>rfl) AE (.inr ⟨rfl,rfl⟩) (.inr ⟨rfl,Hy AD⟩) (.inl ⟨by simp,rfl⟩) (fun h=>by have h:true=false:=h;cases h) (fun _=>rfl) (fun _=>⟨qd,⟨C9 L32 AA,L31⟩,⟨by simp,by simp⟩⟩)
 .cases nb
  .simp only[go_sem,C4,Int.reduceLT,Int.reduceBEq];exact qc _ _ ⟨rfl,h1⟩
  have qd:=qy rfl;have ek:=e3 qd;obtain⟨z,qh⟩:=Xo h1 qF [110];simp only[go_sem,C4,Int.reduceLT,Int.reduceBEq,Int.reduceSub];refine Cb qh ?_;cases z;rotate_left
  .simp only[go_sem,C4,Int.reduceLT,Int.reduceBEq,A0];exact qc _ _ ⟨rfl,h1⟩
  obtain⟨u3,L3,s3,q3,b3,⟨qo,qp,qj,r3⟩,⟨L31,L32⟩,h3,w3⟩:=Ae8 (Ael (ih (k - 1) AA)) h1 AA [110];simp only[go_sem,C4,Int.reduceLT,Int.reduceBEq,Int.reduceSub,A2,ek];refine Aa q3 ?_;simp only[go_sem,qo,qp,qj,h3.z];exact Jl (op:=4) (line:=0) (nm:=[110]) (arg:=[]) (iz:=true) (it:=0) (idx:=[]) (ex:=Xp.zero) (LB:=L3) (LE:=[]) h3 rfl (.inr b3) (.inl ⟨true,0,rfl⟩) AK fun _ _ _ _=>Jq AE AE (fun _=>rfl) AE (.inr ⟨rfl,rfl⟩) (.inr ⟨rfl,Hy AD⟩) (.inl ⟨by simp,rfl⟩) (fun h=>by have h:true=false:=h;cases h) (fun _=>rfl) (fun _=>⟨qd,⟨C9 L32 AA,L31⟩,⟨by simp,by simp⟩⟩)
 .cases nb
  .simp only[go_sem,C4,Int.reduceLT,Int.reduceBEq];exact qc _ _ ⟨rfl,h1⟩
  have qd:=qy rfl;have ek:=e3 qd;obtain⟨z,qh⟩:=Xo h1 qF [114];simp only[go_sem,C4,Int.reduceLT,Int.reduceBEq,Int.reduceSub];refine Cb qh ?_;cases z;rotate_left
  .simp only[go_sem,C4,Int.reduceLT,Int.reduceBEq,A0];exact qc _ _ ⟨rfl,h1⟩
  obtain⟨u3,L3,s3,q3,b3,⟨qo,qp,qj,r3⟩,⟨L31,L32⟩,h3,w3⟩:=Ae8 (Ael (ih (k - 1) AA)) h1 AA [114];simp only[go_sem,C4,Int.reduceLT,Int.reduceBEq,Int.reduceSub,Int.reduceAdd,A2,ek];refine Aa q3 ?_;simp only[go_sem,qo,qp,qj,h3.z];exact Jl (op:=5) (line:=0) (nm:=[114]) (arg:=[]) (iz:=true) (it:=0) (idx:=[]) (ex:=Xp.zero) (LB:=L3) (LE:=[]) h3 rfl (.inr b3) (.inl ⟨true,0,rfl⟩) AK fun _ _ _ _=>Jq AE AE (fun _=>rfl) AE (.inr ⟨rfl,rfl⟩) (.inr ⟨rfl,Hy AD⟩) (.inl ⟨by simp,rfl⟩) (fun h=>by have h:true=false:=h;cases h) (fun _=>rfl) (fun _=>⟨qd,⟨C9 L32 AA,L31⟩,⟨by simp,by simp⟩⟩)
 .cases nb
  .simp only[go_sem,C4,Int.reduceLT,Int.reduceBEq];exact qc _ _ ⟨rfl,h1⟩
  have qd:=qy rfl;have ek:=e3 qd;obtain⟨z,qh⟩:=Xo h1 qF [114];simp only[go_sem,C4,Int.reduceLT,Int.reduceBEq,Int.reduceSub];refine Cb qh ?_;cases z;rotate_left
  .simp only[go_sem,C4,Int.reduceLT,Int.reduceBEq,A0];exact qc _ _ ⟨rfl,h1⟩
  obtain⟨u3,L3,s3,q3,b3,⟨qo,qp,qj,r3⟩,⟨L31,L32⟩,h3,w3⟩:=Ae8 (Ael (ih (k - 1) AA)) h1 AA [114];simp only[go_sem,C4,Int.reduceLT,Int.reduceBEq,Int.reduceSub,Int.reduceAdd,A2,ek];refine Aa q3 ?_;simp only[go_sem,qo,qp,qj,h3.z];exact Jl (op:=6) (line:=0) (nm:=[114]) (arg:=[]) (iz:=true) (it:=0) (idx:=[]) (ex:=Xp.zero) (LB:=L3) (LE:=[]) h3 rfl (.inr b3) (.inl ⟨true,0,rfl⟩) AK fun _ _ _ _=>Jq AE AE (fun _=>rfl) AE (.inr ⟨rfl,rfl⟩) (.inr ⟨rfl,Hy AD⟩) (.inl ⟨by simp,rfl⟩) (fun h=>by have h:true=false:=h;cases h) (fun _=>rfl) (fun _=>⟨qd,⟨C9 L32 AA,L31⟩,⟨by simp,by simp⟩⟩)
 .cases nb
  .simp only[go_sem,C4,Int.reduceLT,Int.reduceBEq];exact qc _ _ ⟨rfl,h1⟩
  have qd:=qy rfl;have ek:=e3 qd;obtain⟨qf,qa,qi,qk,qe,qg,qr,m1,qq⟩:=J8 h1;obtain⟨h2,w2⟩:=qq qf qa qi true qe qg;obtain⟨s2,ql⟩:∃ t,t=s.set m (mO b qf qa qi true qe qg qr):=⟨_,rfl⟩;rw[<-ql]at h2 w2;obtain⟨jY,jm,jX,jZ,jQ,jT,kb,m2,-⟩:=J8 h2;obtain⟨j,s3,q3,hj,h3,w3,jn⟩:=Xy h2 2;have ej:IntKind.i64.wrap (1+(j:Int))=((1+j:Nat):Int):=by rw[Cs AA];omega
  obtain⟨u4,L4,s4,q4,b4,⟨qI,qJ,qv,r4⟩,⟨L41,L42⟩,h4,w4⟩:=Aar (ih 0 AA) h3 AA (1+j);obtain⟨qz,qC,qB,qA,qY⟩:=Afz h4 (.row [iV 7,iV 0,.str [],.str [],.nils,iV 0,iV 0,.str [],.nils,u4,.nils] 103 0 0) (by simp only[Ob.refs,Ag,O0,V.refs,Be,B3];exact fun i hi=>U2 (C1 b4.1 i hi));obtain⟨s5,qw⟩:∃ t,t=s4++[Ob.row [iV 7,iV 0,.str [],.str [],.nils,iV 0,iV 0,.str [],.nils,u4,.nils] 103 0 0]:=⟨_,rfl⟩;rw[<-qw]at qz qC qB qA;have h5:=qz;have b5:=R5 b4 qC;obtain⟨qn,qb,qm,qu,qs,qt,qN,m5,qK⟩:=J8 h5;obtain⟨h6,w6⟩:=qK qn qb qm false qs qt;obtain⟨s6,qx⟩:∃ t,t=s5.set m (mO b qn qb qm false qs qt qN):=⟨_,rfl⟩;rw[<-qx]at h6 w6;have b6:=R5 b5 w6;obtain⟨k6,n6⟩:=Je w6 qA qB;simp only[go_sem,C4,Int.reduceLT,Int.reduceBEq,m1];rw[<-ql];simp only[go_sem,m2];refine Aa q3 ?_;simp only[go_sem,ej];refine Aa q4 ?_;simp only[go_sem,qI,qJ,qv];rw[<-qw];simp only[go_sem,m5];rw[<-qx];simp only[go_sem,k6,h6.z,qv];exact Jl (op:=7) (line:=0) (nm:=[]) (arg:=[]) (iz:=true) (it:=0) (idx:=[]) (ex:=Xp.zero) (LB:=L4) (LE:=[]) h6 rfl (.inr b6) (.inl ⟨true,0,rfl⟩) AK fun _ _ _ _=>Jq AE AE (fun _=>rfl) AE (.inr ⟨rfl,rfl⟩) (.inl ⟨rfl,rfl⟩) (.inl ⟨by simp,rfl⟩) (fun h=>by have h:true=false:=h;cases h) (fun _=>rfl) (fun _=>⟨qd,⟨C9 L42 AA,fun y hy=>Bf3 (Ax _) (L41 y hy)⟩,⟨by simp,by simp⟩⟩)
 .cases nb
  .simp only[go_sem,C4,Int.reduceLT,Int.reduceBEq];exact qc _ _ ⟨rfl,h1⟩
  have qd:=qy rfl;have ek:=e3 qd;obtain⟨qf,qa,qi,qk,qe,qg,qr,m1,qq⟩:=J8 h1;cases qe;rotate_left
  .simp only[go_sem,C4,Int.reduceLT,Int.reduceBEq,m1,A0];exact qc _ _ ⟨rfl,h1⟩
  obtain⟨h2,w2⟩:=qq qf qa qi qk true qg;obtain⟨s2,ql⟩:∃ t,t=s.set m (mO b qf qa qi qk true qg qr):=⟨_,rfl⟩;rw[<-ql]at h2 w2;obtain⟨u4,L4,s4,q4,b4,⟨qI,qJ,qv,r4⟩,⟨L41,L42⟩,h4,w4⟩:=Aar (ih (k - 1) AA) h2 AA 2;obtain⟨qz,qC,qB,qA,qY⟩:=Afz h4 (.row [iV 8,iV 0,.str [],.str [],.nils,iV 0,iV 0,.str [],.nils,u4,.nils] 103 0 0) (by simp only[Ob.refs,Ag,O0,V.refs,Be,B3];exact fun i hi=>U2 (C1 b4.1 i hi));obtain⟨s5,qw⟩:∃ t,t=s4++[Ob.row [iV 8,iV 0,.str [],.str [],.nils,iV 0,iV 0,.str [],.nils,u4,.nils] 103 0 0]:=⟨_,rfl⟩;rw[<-qw]at qz qC qB qA;have h5:=qz;have b5:=R5 b4 qC;obtain⟨qn,qb,qm,qu,qs,qt,qN,m5,qK⟩:=J8 h5;obtain⟨h6,w6⟩:=qK qn qb qm qu false qt;obtain⟨s6,qx⟩:∃ t,t=s5.set m (mO b qn qb qm qu false qt qN):=⟨_,rfl⟩;rw[<-qx]at h6 w6;have b6:=R5 b5 w6;obtain⟨k6,n6⟩:=Je w6 qA qB;simp only[go_sem,C4,Int.reduceLT,Int.reduceBEq,m1,A2];rw[<-ql];simp only[go_sem,ek];refine Aa q4 ?_;simp only[go_sem,qI,qJ,qv];rw[<-qw];simp only[go_sem,m5];rw[<-qx];simp only[go_sem,k6,h6.z,qv];exact Jl (op:=8) (line:=0) (nm:=[]) (arg:=[]) (iz:=true) (it:=0) (idx:=[]) (ex:=Xp.zero) (LB:=L4) (LE:=[]) h6 rfl (.inr b6) (.inl ⟨true,0,rfl⟩) AK fun _ _ _ _=>Jq AE AE (fun _=>rfl) AE (.inr ⟨rfl,rfl⟩) (.inl ⟨rfl,rfl⟩) (.inl ⟨by simp,rfl⟩) (fun h=>by have h:true=false:=h;cases h) (fun _=>rfl) (fun _=>⟨qd,⟨C9 L42 AA,L41⟩,⟨by simp,by simp⟩⟩)
 .cases nb
  .simp only[go_sem,C4,Int.reduceLT,Int.reduceBEq];exact qc _ _ ⟨rfl,h1⟩
  have qd:=qy rfl;have ek:=e3 qd;obtain⟨qf,qa,qi,qk,qe,qg,qr,m1,qq⟩:=J8 h1;cases qe;rotate_left
  .simp only[go_sem,C4,Int.reduceLT,Int.reduceBEq,m1,A0];exact qc _ _ ⟨rfl,h1⟩
  obtain⟨z,qh⟩:=Xo h1 qF [109];simp only[go_sem,C4,Int.reduceLT,Int.reduceBEq,m1,A2];refine Cb qh ?_;cases z;rotate_left
  .simp only[go_sem,C4,Int.reduceLT,Int.reduceBEq,A0];exact qc _ _ ⟨rfl,h1⟩
  have qH:=W8 [97] (Gw [120]);simp only[Gw,SL,Bz,and_self,true_and,if_true]at qH;simp only[go_sem,A2];refine Ab (Ahl _) AK ?_;simp only[go_sem];refine Ab qH AK ?_;simp only[go_sem,h1.z];exact Jl (op:=4) (line:=0) (nm:=[109]) (arg:=[]) (iz:=true) (it:=0) (idx:=[]) (ex:=Xp.zero) (LB:=[Mz 9 [99],My [97] (Gw [120])]) (LE:=[]) h1 rfl (.inl ⟨true,1,by simp only[Az,Bz,Yd,Agy];rfl⟩) (.inl ⟨true,0,rfl⟩) (by simp only[Az,Bz,Yd,Agy];rfl) fun _ _ _ _=>Jq AE AE (fun _=>rfl) AE (.inr ⟨rfl,rfl⟩) (.inr ⟨rfl,Hy AD⟩) (.inl ⟨by simp,rfl⟩) (fun h=>by have h:true=false:=h;cases h) (fun _=>rfl) (fun _=>⟨qd,⟨by simp,fun y hy=>by simp only[Bp,La,or_false]at hy;rcases hy with rfl | rfl<;>first | exact Ace (.inl rfl) (Hy AD) | exact An4 (Hy AD) (Bql (Hy AD) 1)⟩,⟨by simp,by simp⟩⟩)
 .cases nb
  .simp only[go_sem,C4,Int.reduceLT,Int.reduceBEq];exact qc _ _ ⟨rfl,h1⟩
  have qd:=qy rfl;have ek:=e3 qd;obtain⟨z,qh⟩:=Xo h1 qF [109];simp only[go_sem,C4,Int.reduceLT,Int.reduceBEq];refine Cb qh ?_;cases z;rotate_left
  .simp only[go_sem,C4,Int.reduceLT,Int.reduceBEq,A0];exact qc _ _ ⟨rfl,h1⟩
  obtain⟨qf,qa,qi,qk,qe,qg,qr,m1,qq⟩:=J8 h1;obtain⟨j,s3,q3,hj,h3,w3,jn⟩:=Xy h1 2;have ej:IntKind.i64.wrap (10+(j:Int))=10+(j:Int):=Cs AA;simp only[go_sem,A2,m1];refine Aa q3 ?_;simp only[go_sem,ej,h3.z];exact Jl (op:=4) (line:=0) (nm:=[109]) (arg:=[]) (iz:=true) (it:=0) (idx:=[]) (ex:=Xp.zero) (LB:=[Mz (10+(j:Int)) [99]]) (LE:=[]) h3 rfl (.inl ⟨true,1,by simp only[Az,Bz,Yd];rfl⟩) (.inl ⟨true,0,rfl⟩) (by simp only[Az,Bz,Yd];rfl) fun _ _ _ _=>Jq AE AE (fun _=>rfl) AE (.inr ⟨rfl,rfl⟩) (.inr ⟨rfl,Hy AD⟩) (.inl ⟨by simp,rfl⟩) (fun h=>by have h:true=false:=h;cases h) (fun _=>rfl) (fun _=>⟨qd,⟨by simp,fun y hy=>by rw[F5.1 hy];exact Ace AA (Hy AD)⟩,⟨by simp,by simp⟩⟩)
 .obtain⟨qf,qa,qi,qk,qe,qg,qr,m1,qq⟩:=J8 h1;cases qk;rotate_left
  .simp only[go_sem,C4,Int.reduceLT,Int.reduceBEq,m1,A0];exact qc _ _ ⟨rfl,h1⟩
  cases qg;rotate_left
  .simp only[go_sem,C4,Int.reduceLT,Int.reduceBEq,m1,A0,A2];exact qc _ _ ⟨rfl,h1⟩
  cases qi;rotate_left
  .simp only[go_sem,C4,Int.reduceLT,Int.reduceBEq,m1,A0,A2];exact qc _ _ ⟨rfl,h1⟩
  obtain⟨h2,w2⟩:=qq qf qa true false qe false;obtain⟨s2,ql⟩:∃ t,t=s.set m (mO b qf qa true false qe false qr):=⟨_,rfl⟩;rw[<-ql]at h2 w2;obtain⟨x,s3,q3,hx,h3,w3,xs⟩:=Vu h2 1;simp only[go_sem,C4,Int.reduceLT,Int.reduceBEq,m1,A2];rw[<-ql];refine Cb q3 ?_;simp only[go_sem,h3.z];exact Jl (op:=14) (line:=0) (nm:=[102]) (arg:=[]) (iz:=true) (it:=0) (idx:=[]) (ex:=x) (LB:=[]) (LE:=[]) h3 rfl (.inl ⟨true,0,rfl⟩) (.inl ⟨true,0,rfl⟩) AK fun _ _ _ _=>Jq AE AE (fun _=>rfl) AE (.inl ⟨rfl,hx⟩) (.inr ⟨rfl,Hy AD⟩) (.inl ⟨by simp,rfl⟩) (fun _=>rfl) (fun _=>rfl) (fun h=>by have h:false=true:=h;cases h)
 .obtain⟨qf,qa,qi,qk,qe,qg,qr,m1,qq⟩:=J8 h1;cases qk;rotate_left
  .simp only[go_sem,C4,Int.reduceLT,Int.reduceBEq,m1,A0];exact qc _ _ ⟨rfl,h1⟩
  obtain⟨j,s3,q3,hj,h3,w3,jn⟩:=Xy h1 2;simp only[go_sem,C4,Int.reduceLT,Int.reduceBEq,m1,A2];refine Aa q3 ?_;by_cases j1:j=1
  .subst j1;simp only[go_sem,C4,Int.reduceBEq,h3.z];exact Jl (op:=15) (line:=0) (nm:=[97]) (arg:=[102]) (iz:=true) (it:=0) (idx:=[]) (ex:=Xp.zero) (LB:=[]) (LE:=[]) h3 rfl (.inl ⟨true,0,rfl⟩) (.inl ⟨true,0,rfl⟩) AK fun _ _ _ _=>Jq AE AE (fun _=>rfl) AE (.inr ⟨rfl,rfl⟩) (.inr ⟨rfl,Hy AD⟩) (.inr ⟨rfl,Hy AD⟩) (fun _=>rfl) (fun _=>rfl) (fun h=>by have h:false=true:=h;cases h)
  .have fj:((j:Int)==1)=false:=by simp;omega
   simp only[go_sem,fj];exact qc _ _ ⟨rfl,h3⟩
def Ar6:∀ (K:Nat),K<=20->∀ k,k<=K->MSt k/\MSs k
 | 0,hK,k,hk=>by
  have h:=Aqu (k:=k) AA fun j hj=>by omega
  exact⟨h,Ar5 h⟩
 | K+1,hK,k,hk=>by
  have h:=Aqu (k:=k) AA fun j hj=>(Ar6 K AA j AA).2
  exact⟨h,Ar5 h⟩
