/- Walks: the maker of programs: what a statement's walk carries along. -/
import Derived.Test.YtphikjgngompaabGreatDoorIb
set_option linter.all false
namespace Go.Proofs.YtphikjgngompaabGreatDoor.KM
open Go
def W8(nm:List UInt8)(x:Xp):Fn TT PT 37 [.str nm,.agg (xR x)] (.agg [iV 1,iV 0,.str nm,.str [],.nils,iV x.op,iV x.n,.str x.nm,SL x.z x.t (x.l.map Xp.row),.nils,.nils]):=by
 have jw:=Dw x;rw[Bi x]at jw;refine Bg T37 rfl ?_;simp only[go_sem];exact Fw AB
def Jj{v:V}(h:v.cellB=true):v.cells=[v]/\[v].all V.cellB=true:=⟨by cases v<;>simp[V.cellB]at h<;>rfl,by grind⟩
def Bag{σ:St}{m b:Nat}{uH:V}{H:List (List UInt8)}(h:MKr σ m b uH H)(hH:H.length<=1000)(nm:List UInt8):∃ z:Bool,Th TT PT 109 [.ptr m 0 0,.str nm] σ (.bool z) σ:=by
 obtain⟨_,_,_,_,_,_,m1⟩:=h.row;obtain⟨z,hz⟩:=Ank h.h AA;have ha:=X8 z 0 H nm AA
 suffices hh:∃ v,Th TT PT 109 [.ptr m 0 0,.str nm] σ v σ/\∃ z,v=.bool z by
  grind
 refine Ay7 T109 rfl ?_;simp only[go_sem,m1];refine A0c (.cons (Vl hz (Kz h.h)) (.cons (I0 rfl) .nil)) ha AK ?_;simp only[go_sem];exact⟨_,rfl,⟨rfl,rfl⟩,⟨[],by simp⟩,_,rfl⟩
structure MW (σ s:St) (m b:Nat) (H:List (List UInt8)):Prop where
 hk:∃ uH,MKr s m b uH H
 fw:FW m σ s
 z:s[σ.length]?=some (sP 0 0 [] [])
 n:σ.length ∉ fp s m
 m0:m<σ.length
def Yq{σ s:St}{m b:Nat}{H:List (List UInt8)}(h:MW σ s m b H):σ.length<s.length:=(Ao.1 h.z).1
theorem Xw{σ s s':St}{m b:Nat}{H:List (List UInt8)}{uH:V}(h:MW σ s m b H)(hk:MKr s' m b uH H)(w:FW m s s'):MW σ s' m b H:=by
 obtain⟨k,n⟩:=Ji w h.z h.n;exact⟨⟨_,hk⟩,Fv h.fw w,k,n,h.m0⟩
def K1{σ s:St}{m b:Nat}{H:List (List UInt8)}(h:MW σ s m b H):∃ (th left:Int) (se tx ao lp:Bool) (uH:V),s[m]?=some (mO b th left se tx ao lp uH) /\
  ∀ (th left:Int) (se tx ao lp:Bool),MW σ (s.set m (mO b th left se tx ao lp uH)) m b H/\FW m s (s.set m (mO b th left se tx ao lp uH)):=by
 obtain⟨uH,hk⟩:=h.hk;obtain⟨th,left,se,tx,ao,lp,hr⟩:=hk.row;refine⟨th,left,se,tx,ao,lp,uH,hr,fun th left se tx ao lp=>?_⟩;obtain⟨h1,h2⟩:=Ay8 hk th left se tx ao lp
 grind[Xw]
def Xx{σ s:St}{m b:Nat}{H:List (List UInt8)}(h:MW σ s m b H)(n:Nat)(hn:n<=1000000000:=by omega):∃ (r:Nat) (s':St),Bw TT PT 34 [.ptr b 0 0,iV (n:Int)] s (iV (r:Int)) s'/\(r<n\/r=0)/\MW σ s' m b H/\FW m s s'/\s'[m]?=s[m]?:=by
 obtain⟨uH,hk⟩:=h.hk;obtain⟨r,s',q,h1,h2,-,h4,h5⟩:=Rj hk n n rfl hn
 grind[Xw]
def Vq{σ s:St}{m b:Nat}{H:List (List UInt8)}(h:MW σ s m b H)(d:Nat)(hd:d<=5:=by omega):∃ (x:Xp) (s':St),Th TT PT 106 [.ptr m 0 0,iV (d:Int)] s (.agg (xR x)) s'/\MX d x/\MW σ s' m b H/\FW m s s'/\Da (.agg (xR x))=true:=by
 obtain⟨uH,hk⟩:=h.hk;obtain⟨_,s',q,⟨x,rfl,hx⟩,h1,h2⟩:=Aum 5 AA d hd s m b uH H hk
 grind[Dw,Bi,Xw]
def Xm{σ s:St}{m b:Nat}{H:List (List UInt8)}(h:MW σ s m b H)(hH:H.length<=1000)(nm:List UInt8):∃ z:Bool,Th TT PT 109 [.ptr m 0 0,.str nm] s (.bool z) s:=by
 obtain⟨uH,hk⟩:=h.hk;exact Bag hk hH nm
def Sk(σ s:St)(m:Nat)(u:V)(L:List Sp):Prop:=GS s 11 98 u (L.map Sp.row)/\∀ j∈u.refs,σ.length<j/\j ∉ fp s m
def R6{σ s s':St}{m:Nat}{u:V}{L:List Sp}(h:Sk σ s m u L)(hw:FW m s s'):Sk σ s' m u L:=by
 obtain⟨h1,h2⟩:=h;refine⟨Ig h1 fun i hi=>hw.2.1 i (Cz h1 i hi) (h2 i hi).2,fun j hj=>⟨(h2 j hj).1,fun hm=>?_⟩⟩;have:=Cz h1 j hj;rcases hw.2.2 j hm with h3 | h3
 .grind
 .omega
theorem Aze{s:St}{m j:Nat}{X:Ob}(hj:j≠m):fp (s.set j X) m=fp s m:=by
 grind[fp]
def Azf{σ s:St}{m j:Nat}{u:V}{L:List Sp}(X:Ob)(h:Sk σ s m u L)(hj:j ∉ u.refs)(hm:j≠m):Sk σ (s.set j X) m u L:=by
 obtain⟨h1,h2⟩:=h;exact⟨Ig h1 fun i hi=>Ce fun(e:j=i)=>hj (by grind),fun i hi=>⟨(h2 i hi).1,by grind[Aze]⟩⟩
def Aah{σ s:St}{m b k:Nat}{H:List (List UInt8)}(hS:MSs k)(h:MW σ s m b H)(hH:H.length+k<=100)(n:Nat)(hn:n<=1000000:=by omega):∃ (u:V) (L:List Sp) (s':St),Bw TT PT 35 [.ptr m 0 0,iV (k:Int),iV (n:Int)] s u s'/\Sk σ s' m u L/\(u.cells=[u]/\[u].all V.cellB=true/\u.cellB=true/\∀ j∈u.refs,s.length<=j)/\((∀ x∈L,SM k x)/\L.length<=n)/\MW σ s' m b H/\FW m s s':=by
 obtain⟨uH,hk⟩:=h.hk;obtain⟨u,s',q,L,qs,hO,hL,qa,h1,h2⟩:=hS s m b uH H hk hH n hn;have hc:=Kz hO.1;have hl:=Yq h;exact⟨u,L,s',q,⟨hO.1,fun j hj=>⟨by have:=(hO.2 j hj).1;omega,(hO.2 j hj).2⟩⟩,⟨(Jj hc).1,(Jj hc).2,hc,fun j hj=>(hO.2 j hj).1⟩,⟨hL,qa⟩,Xw h h1 h2,h2⟩
def MBl(k:Nat):Prop:=∀ (σ:St) (m b:Nat) (uH:V) (H:List (List UInt8)) (nm:List UInt8),MKr σ m b uH H->H.length+1+k<=100->∃ v σ',Bw TT PT 110 [.ptr m 0 0,.str nm,iV (k:Int)] σ v σ'/\∃ (L:List Sp) (qs:V),OL σ σ' m v L/\(∀ x∈L,SM k x)/\L.length<=2/\MKr σ' m b qs H/\FW m σ σ'
def Aev{σ s:St}{m b k:Nat}{H:List (List UInt8)}(hS:MBl k)(h:MW σ s m b H)(hH:H.length+1+k<=100)(nm:List UInt8):∃ (u:V) (L:List Sp) (s':St),Bw TT PT 110 [.ptr m 0 0,.str nm,iV (k:Int)] s u s'/\Sk σ s' m u L/\(u.cells=[u]/\[u].all V.cellB=true/\u.cellB=true/\∀ j∈u.refs,s.length<=j)/\((∀ x∈L,SM k x)/\L.length<=2)/\MW σ s' m b H/\FW m s s':=by
 obtain⟨uH,hk⟩:=h.hk;obtain⟨u,s',q,L,qs,hO,hL,qa,h1,h2⟩:=hS s m b uH H nm hk hH;have hc:=Kz hO.1;have hl:=Yq h;exact⟨u,L,s',q,⟨hO.1,fun j hj=>⟨by have:=(hO.2 j hj).1;omega,(hO.2 j hj).2⟩⟩,⟨(Jj hc).1,(Jj hc).2,hc,fun j hj=>(hO.2 j hj).1⟩,⟨hL,qa⟩,Xw h h1 h2,h2⟩
def Afl{σ s:St}{m b:Nat}{H:List (List UInt8)}(h:MW σ s m b H)(X:Ob)(hX:∀ i∈X.refs,i<s.length+1):MW σ (s++[X]) m b H/\FW m s (s++[X])/\s.length ∉ fp (s++[X]) m/\(s++[X])[s.length]?=some X/\s.length≠m:=by
 obtain⟨uH,hk⟩:=h.hk;obtain⟨h1,h2⟩:=Afk hk [X] (Jh hk.cl hX);have hm:=Mm hk;refine⟨Xw h h1 h2,h2,fun hm=>?_,by simp,by omega⟩;rw[H6 h1,<-H6 hk]at hm;exact Agh (τ:=s) hk (Aj _) hm
def Bk0{σ s:St}{m b j:Nat}{H:List (List UInt8)}(h:MW σ s m b H)(X:Ob)(hj:σ.length<j)(hn:j ∉ fp s m)(hX:∀ i∈X.refs,i<s.length):MW σ (s.set j X) m b H:=by
 obtain⟨uH,hk⟩:=h.hk;rw[H6 hk]at hn;simp only[Bp,not_or]at hn;refine⟨⟨uH,Rt hk (F9 hk.cl hX) (Ce hn.1) ?_ fun i hi=>Ce fun(e:j=i)=>hn.2.2 (by grind)⟩,Ayi h.fw AA h.m0,by rw[Ce AA];exact h.z,by rw[Aze hn.1];exact h.n,h.m0⟩;obtain⟨z,t,l,a,h1,h2⟩:=hk.tape;exact⟨z,t,l,a,by grind,h2⟩
def Bk1{σ s:St}{m b:Nat}{u:V}{H:List (List UInt8)}{L:List Sp}(h:Sk σ s m u L)(hk:MW σ s m b H)(x:Sp)(hb:L.length<=1000000):∃ u' s',Dt 176 (11,98) u (.lst 1 [x.row]) s=some (u',s')/\Sk σ s' m u' (L++[x])/\(u'.cells=[u']/\[u'].all V.cellB=true/\u'.cellB=true)/\MW σ s' m b H:=by
 obtain⟨uH,qm⟩:=hk.hk;obtain⟨h1,h2⟩:=h;obtain⟨u',s',e1,g,hl,hB,hr,hc⟩:=Xt (bytes:=176) (row:=x.row) h1 AA (O3 x) (Hc x) (by grind);have hf:=H6 qm
 have nf:∀ i∈fp s m,i<s.length/\i ∉ u.refs:=fun i hi=>by
  refine⟨?_,fun e=>(h2 i e).2 hi⟩;rw[hf]at hi;simp only[Bp]at hi;rcases hi with rfl | rfl | hi
  .grind[Mm]
  .exact Pm qm.tape
  .exact Cz qm.h i hi
 have kp:∀ i∈fp s m,s'[i]?=s[i]?:=fun i hi=>hB i (nf i hi).1 (nf i hi).2
 have hm:s'[m]?=s[m]?:=kp m (by grind);have jA:s'[b]?=s[b]?:=kp b (by grind);have qi:fp s' m=fp s m:=by unfold fp;rw[hm]
 refine⟨u',s',e1,⟨by grind,fun j hj=>?_⟩,⟨(Jj (Kz g)).1,(Jj (Kz g)).2,Kz g⟩,⟨uH,Rt qm (hc qm.cl) hm ?_ fun i hi=>kp i (by grind)⟩,Ayj hk.fw hk.m0 hl (fun j hj=>.inr (Adm (h2 j hj).1)) (fun j hj hn=>hB j hj hn) fun e=>(h2 m e).2 (by grind),by rw[hB _ (Yq hk) fun e=>by grind];exact hk.z,by rw[qi];exact hk.n,hk.m0⟩
 .rw[qi];rcases hr j hj with h3 | h3
  .grind
  .exact⟨by have:=Yq hk;omega,fun e=>by grind⟩
 .obtain⟨z,t,l,a,h1,h2⟩:=qm.tape;exact⟨z,t,l,a,by grind,h2⟩
def BSs(σ s:St)(m:Nat)(u:V)(L:List Sp):Prop:=(∃ z t,u=SL z t (L.map Sp.row))\/Sk σ s m u L
def A0u{σ s:St}{m:Nat}{u:V}{L:List Sp}(h:BSs σ s m u L)(X:Ob):∃ z t,OC (s.set σ.length X) u (SL z t (L.map Sp.row))/\u.cellB=true/\(∀ j∈u.refs,σ.length<j/\j ∉ fp s m/\j<s.length):=by
 rcases h with⟨z,t,rfl⟩ | ⟨h1,h2⟩
 .refine⟨z,t,Fk ?_,?_,by grind[O4]⟩
  .grind[Hn]
  .unfold SL;split<;>rfl
 .have h3:GS (s.set σ.length X) 11 98 u (L.map Sp.row):=Ig h1 fun i hi=>Ce (by grind)
  grind[Ank,Kz,Cz]
set_option maxHeartbeats 1000000 in
def Jp{σ s:St}{m b k:Nat}{H:List (List UInt8)}{e:Env}{uB uE:V}{cs:List V}{op line:Int}{nm arg:List UInt8}{iz:Bool}{it:Nat}{idx:List Xp}{ex:Xp}{LB LE:List Sp}(h:MW σ s m b H)(he:e.get 4=.ptr σ.length 0 0)(hB:BSs σ s m uB LB)(hE:BSs σ s m uE LE)
  (qy:cs=[iV op,iV line,.str nm,.str arg,SL iz it (idx.map Xp.row),iV ex.op,iV ex.n,.str ex.nm,SL ex.z ex.t (ex.l.map Xp.row),uB,uE]) (hS:∀ z t z' t',SM k ⟨op,line,nm,arg,iz,it,idx,ex,z,t,LB,z',t',LE⟩) :
  ∃ cs1 cs',Cd e (s.set σ.length (.row cs 98 0 0)) [.cell 4 11 false]=some (.agg cs1)/\(cs1.all V.cellB=true/\OCs (s.set σ.length (.row cs 98 0 0)) cs1 cs'/\cs'.all V.rowB=true)/\(σ.length<=(s.set σ.length (.row cs 98 0 0)).length/\Cl (s.set σ.length (.row cs 98 0 0))) /\
   ((∃ x:Sp,V.agg cs'=.agg x.row/\SM k x)/\(∃ qs,MKr (St.freeze (s.set σ.length (.row cs 98 0 0)) (Ag cs1)) m b qs H)/\FW m σ (St.freeze (s.set σ.length (.row cs 98 0 0)) (Ag cs1))):=by
 have hl:=Yq h;obtain⟨uH,hk⟩:=h.hk;obtain⟨z1,t1,o1,c1,r1⟩:=A0u hB (.row cs 98 0 0);obtain⟨z2,t2,o2,c2,r2⟩:=A0u hE (.row cs 98 0 0);have qY:V.rowB (SL iz it (idx.map Xp.row))=true:=Hn _ _ _;have qZ:V.rowB (SL ex.z ex.t (ex.l.map Xp.row))=true:=Hn _ _ _
 have qX:Ag cs=uB.refs++uE.refs:=by
  rw[qy];simp only[Ag,O4,V.refs,Ba,Cc]
 have jl:∀ j∈Ag cs,σ.length<j/\j ∉ fp s m/\j<s.length:=fun j hj=>by
  grind
 have ql:Cl (s.set σ.length (.row cs 98 0 0)):=F9 hk.cl fun i hi=>(jl i hi).2.2
 have hn:=h.n;have jk:=H6 hk;rw[jk]at hn;simp only[Bp,not_or]at hn;have qo:(s.set σ.length (.row cs 98 0 0))[σ.length]?=some (.row cs 98 0 0):=Cr hl
 have qV:∀ j,j∈fp s m->(St.freeze (s.set σ.length (.row cs 98 0 0)) (Ag cs))[j]?=s[j]?:=fun j hj=>by
  grind[Ya]
 have qW:=qV m (by grind);refine⟨cs,(sW op line nm arg iz it idx ex.op ex.n ex.nm ex.z ex.t ex.l z1 t1 LB z2 t2 LE),Wh qo he (by simp_all),⟨?_,?_,?_⟩,⟨by grind,ql⟩,⟨⟨op,line,nm,arg,iz,it,idx,ex,z1,t1,LB,z2,t2,LE⟩,by rw[Fl],hS z1 t1 z2 t2⟩,⟨uH,Rt hk (Yp _ _ ql) qW ?_ fun i hi=>qV i (by grind)⟩,?_⟩
 .rw[qy]
  have a1:V.cellB (SL iz it (idx.map Xp.row))=true:=by unfold SL;split<;>rfl
  have a2:V.cellB (SL ex.z ex.t (ex.l.map Xp.row))=true:=by unfold SL;split<;>rfl
  simp only[B5,Db,a1,a2,c1,c2];rfl
 .conv=>arg 2;rw[qy]
  exact .cons (Fk rfl) (.cons (Fk rfl) (.cons (Fk rfl) (.cons (Fk rfl) (.cons (Fk qY) (.cons (Fk rfl) (.cons (Fk rfl) (.cons (Fk rfl) (.cons (Fk qZ) (.cons o1 (.cons o2 .nil))))))))))
 .have b1:V.rowB (SL z1 t1 (LB.map Sp.row))=true:=Hn _ _ _;have b2:V.rowB (SL z2 t2 (LE.map Sp.row))=true:=Hn _ _ _;simp only[B5,Db,qY,qZ,b1,b2];rfl
 .obtain⟨z,t,l,a,h1,h2⟩:=hk.tape;exact⟨z,t,l,a,by grind,h2⟩
 .have hw:=h.fw;refine⟨by grind[Ra],fun j hj jq=>?_,fun j hj=>?_⟩
  .rw[Ya _ _ _ fun e=>by grind,Ce AA];exact hw.2.1 j hj jq
  .unfold fp at hj;rw[qW]at hj;exact hw.2.2 j hj
def Jx{k:Nat}{x:Sp}(h1:1<=x.op/\x.op<=15)(h2:x.idx.length<=1)(h3:x.op≠1->x.idx=[])(h4:∀ y∈x.idx,MX 0 y)(h5:(Ek x.op=true/\MX 1 x.ex)\/(Ek x.op=false/\x.ex=Xp.zero))(h6:(F8 x.op=true/\x.nm=[])\/(F8 x.op=false/\Mw x.nm))(h7:(x.op≠15/\x.arg=[])\/(x.op=15/\Mw x.arg))
  (h8:Bv x.op=false->x.body=[]) (qw:x.op≠2->x.els=[]) (h9:Bv x.op=true->k≠0/\(x.body.length<=3/\∀ y∈x.body,SM (k - 1) y)/\(x.els.length<=1/\∀ y∈x.els,SM (k - 1) y)) (jd:x.body.length+x.els.length<=2:=by simp;try omega):SM k x:=by
 have hv:∀ n:Int,(n=1\/n=2\/n=3\/n=14)->Ek n=true:=by
  rintro n (rfl | rfl | rfl | rfl)<;>rfl
 have e0:EB 0=22:=rfl;have e1:EB 1=54:=rfl;have x0:Pw 0=12:=rfl;have x1:Pw 1=36:=rfl
 have l6:x.nm.length<=4:=by
  rcases h6 with⟨-,h⟩ | ⟨-,-,h⟩
  .rw[h];exact Ax _
  .exact h
 have l7:x.arg.length<=4:=by
  rcases h7 with⟨-,h⟩ | ⟨-,-,h⟩
  .rw[h];exact Ax _
  .exact h
 have li:(E6 x.idx).length<=56:=by
  refine C8 (Akp _) ?_
  cases hx:x.idx with
  | nil=>simp
  | cons a r=>
   have:=(h4 a (by rw[hx];exact B4)).2.1;simp only;omega
 have lx:x.op=1\/x.op=2\/x.op=3\/x.op=14->x.ex.txt.length<=118:=fun h=>by
  rcases h5 with⟨-,h5⟩ | ⟨h5,-⟩
  .have:=h5.2.1;omega
  .rw[hv _ h]at h5;cases h5
 have qT:(Ds x).length<=302:=by
  have:=Ay4 l6 l7 li lx;unfold Ds;rw[Aq]
  split<;>simp<;>omega
 have hds:x.hds=Ds x::(Sp.hdss x.body++Sp.hdss x.els):=by cases x;rw[Sp.hds]
 have js:SX k x:=by
  have hz:1<=YB k:=by cases k<;>simp[YB]
  cases hb:Bv x.op
  .have e1:=h8 hb;have e2:x.els=[]:=qw fun e=>by rw[e]at hb;cases hb
   refine⟨by rw[Mc,e1,e2];simp[Sp.szs];omega,fun l hl=>?_⟩;rw[hds,e1,e2]at hl;simp[Sp.hdss]at hl;rw[hl];exact qT
  .obtain⟨hk,⟨-,b1⟩,-,b2⟩:=h9 hb;obtain⟨s1,s2⟩:=Agk fun y hy=>(b1 y hy).1.2
   obtain⟨s3,s4⟩:=Agk fun y hy=>(b2 y hy).1.2
   have hy:YB k=1+2*YB (k - 1):=by
    cases k with
    | zero=>exact absurd rfl hk
    | succ k=>rfl
   have je:=E0 (YB (k - 1)) jd;rw[Ox]at je;refine⟨by rw[Mc];omega,fun l hl=>?_⟩;rw[hds]at hl;rcases Bp.1 hl with rfl | hl
   .exact qT
   .rcases Cu.1 hl with hl | hl
    .exact s2 l hl
    .exact s4 l hl
 refine⟨⟨Bqp h1 h2 h3 (fun y hy=>⟨(h4 y hy).1,by have:=(h4 y hy).2.1;omega⟩) (fun h=>?_) (fun h=>?_) h6 h7 h8 qw fun h=>?_,js⟩,?_⟩
 .rcases h5 with⟨-,h5⟩ | ⟨h5,-⟩
  .exact⟨h5.1,by have:=h5.2.1;omega⟩
  .rw[hv _ h]at h5;cases h5
 .rcases h5 with⟨h5,-⟩ | ⟨-,h5⟩
  .rw[h]at h5;cases h5
  .rw[h5];exact⟨rfl,rfl,rfl,rfl⟩
 .obtain⟨a,b,c⟩:=h9 h;exact⟨a,b.1,c.1,fun y hy=>(b.2 y hy).1.1,fun y hy=>(c.2 y hy).1.1⟩
 .have hn:x.nm.length<=4:=by
   rcases h6 with⟨-,h⟩ | ⟨-,h⟩
   .rw[h];simp
   .exact h.2
  have ha:x.arg.length<=4:=by
   rcases h7 with⟨-,h⟩ | ⟨-,h⟩
   .rw[h];simp
   .exact h.2
  have hi:Cy (x.idx.map Xp.row)<=12:=by
   rcases hx:x.idx with _ | ⟨y,r⟩
   .simp[Cy]
   .rw[hx]at h2 h4;have:r=[]:=Zc.1 (by rw[An]at h2;omega);subst this;have:=(h4 y AE).2.2;simp[Cy];omega
  have he:C3 x.ex.row<=36:=by
   rcases h5 with⟨-,h5⟩ | ⟨-,h5⟩
   .have:=h5.2.2;omega
   .rw[h5,G8];simp[Xp.zero,Cy]
  rw[N9];cases hb:Bv x.op
  .have jj:x.els=[]:=qw fun e=>by rw[e]at hb;cases hb
   rw[h8 hb,jj];simp only[B0,Cy];have:BK 0<=BK k:=Aly (Ax _);have:BK 0=100:=rfl;omega
  .obtain⟨hk,⟨l1,b1⟩,⟨l2,b2⟩⟩:=h9 hb
   have qq:∀ {l:List Sp},(∀ y∈l,SM (k - 1) y)->Cy (l.map Sp.row)<=l.length*BK (k - 1):=by
    intro l
    induction l with
    | nil=>intro _;simp[Cy]
    | cons y l ih=>
     intro h;have h1:=(h y AE).2;have h2:=ih fun z hz=>h z (by simp[hz])
     rw[Aw,Cy,An,G0];omega
   have g1:=qq b1;have g2:=qq b2;have g3:x.body.length*BK (k - 1)<=3*BK (k - 1):=E0 _ l1;have g4:x.els.length*BK (k - 1)<=1*BK (k - 1):=E0 _ l2
   have g5:BK k=100+4*BK (k - 1):=by
    cases k with
    | zero=>exact absurd rfl hk
    | succ k=>rfl
   omega
theorem Jq{σ τ:St}{m e lo:Nat}{u:V}{xs:List (List V)}(h:GW σ m e lo u xs)(hk:∀ i∈u.refs,τ[i]?=σ[i]?):GW τ m e lo u xs:=by
 rcases h with h | ⟨hn,i,g,h,ho,qg⟩
 .exact .inl h
 .exact .inr ⟨hn,i,g,h,by grind[V.refs],qg⟩
def Dl{σ:St}{m e lo:Nat}{u:V}{xs:List (List V)}(h:GW σ m e lo u xs):∀ i∈u.refs,lo<=i/\i<σ.length:=by
 intro j hj;rcases h with⟨rfl,-⟩ | ⟨hn,i,g,rfl,ho,qg⟩
 .grind[V.refs]
 grind[V.refs]
def Bk2{σ:St}{m e lo:Nat}{u:V}{xs:List (List V)}(h:GW σ m e lo u xs)(hl:∀ r∈xs,r.length=m):Eu σ m u=some xs:=by
 rcases h with⟨rfl,rfl⟩ | ⟨hn,i,g,rfl,ho,qg⟩
 .rfl
 .simp only[Eu,ho];rw[if_pos ⟨trivial,trivial,by grind[Gg]⟩,Jf,U5 hl]
def Bk3{σ:St}{m e:Nat}{u:V}{xs:List (List V)}(h:GS σ m e u xs):Eu σ m u=some xs:=by
 obtain⟨⟨hl,hr⟩,h⟩:=h;rcases h with⟨rfl,rfl⟩ | ⟨i,g,r,q,rfl,ho,hq,jE⟩
 .rfl
 .simp only[Eu,ho];rw[if_pos ⟨trivial,trivial,by grind[Gg]⟩,Jf,Ad6 m xs r hl]
def Bah(a:List V)(k:Nat):∀ i∈Ag (a.take k),i∈Ag a:=by
 grind[Lh,List.take_append_drop]
def Bai(a:List V)(k:Nat):∀ i∈Ag (a.drop k),i∈Ag a:=by
 intro i hi;have:=Lh (a.take k) (a.drop k)
 simp_all
theorem Agl{σ σ':St}{m e bytes:Nat}{u u' y:V}{ys:List (List V)}(ha:Dt bytes (m,e) u y σ=some (u',σ'))(hy:Eu σ m y=some ys)(hr:∀ r∈ys,r.all V.rowB=true)(hu:u=.nils\/∃ i g len,u=.sl i g 0 len m true):(∀ j∈u'.refs,j∈u.refs\/σ.length<=j)/\(Cl σ->Cl σ'):=by
 have hf:Ag ys.flatten=[]:=Ft (Id hr);unfold Dt at ha;simp only[hy,C5]at ha;unfold Jz at ha
 split at ha
 .rcases hu with rfl | ⟨i,g,len,rfl⟩
  .grind[V.refs,Jh,Ob.refs]
  .simp only at ha
   split at ha
   .split at ha
    .rename_i cs e' g' z ho;have hi:=(Ao.1 ho).1;have hm:=F7 ho
     split at ha
     .split at ha
      .grind
      .split at ha
       .split at ha
        .cases ha;refine⟨fun j hj=>.inl hj,fun hc=>F9 hc fun j hj=>?_⟩;simp only[Ob.refs,Lh,hf,Cc,Cu]at hj;rcases hj with hj | hj
         .exact hc _ hm j (Bah _ _ _ hj)
         .exact hc _ hm j (Bai _ _ _ hj)
        .split at ha
         .cases ha;refine⟨fun j hj=>.inl hj,fun hc=>F9 hc fun j hj=>?_⟩;simp only[Ob.refs,Lh,hf,Cc]at hj;exact hc _ hm j hj
         grind
       grind
     grind
    grind
   grind
 grind
theorem Akw{σ:St}{m e lo:Nat}{u:V}{xs:List (List V)}(h:GW σ m e lo u xs):u=.nils\/∃ i g len,u=.sl i g 0 len m true:=by
 rcases h with⟨rfl,-⟩ | ⟨hn,i,g,rfl,-⟩
 .grind
 grind
def Pa{σ:St}{m e lo bytes:Nat}{u y:V}{xs ys:List (List V)}(h:GW σ m e lo u xs)(jo:lo<=σ.length)(hy:Eu σ m y=some ys)(hm:0<m)(hl:∀ r∈xs,r.length=m)(jC:∀ r∈ys,r.length=m)(hr:∀ r∈ys,r.all V.rowB=true)(hb:(xs.length+ys.length)*bytes<=140737488355328):
  ∃ u' σ',Dt bytes (m,e) u y σ=some (u',σ')/\GW σ' m e lo u' (xs++ys)/\σ.length<=σ'.length/\(∀ j,j<σ.length->j ∉ u.refs->σ'[j]?=σ[j]?)/\(∀ j∈u'.refs,j∈u.refs\/σ.length<=j)/\(Cl σ->Cl σ'):=by
 grind[I1,Agl,Akw,V.refs]
def Ar0{σ:St}{lo e:Nat}{u loc:V}{B:List Sp}(h:GW σ 11 e lo u (B.map Sp.row))(hb:loc.rowB=true)(nm:List UInt8)(ln:Int):
  ∃ σ',Qp 4 1 σ [.str nm,iV ln,loc,u]=some (.lst 1 [[.str nm,iV ln,loc,SL true 0 (B.map Sp.row)]],σ')/\σ'.length=σ.length/\(∀ j,j ∉ u.refs->σ'[j]?=σ[j]?)/\(Cl σ->Cl σ'):=by
 have hl:∀ r∈B.map Sp.row,r.length=11:=fun r hr=>by obtain⟨x,-,rfl⟩:=Cs.1 hr;simp[O3]
 have hs:∀ r∈B.map Sp.row,r.all V.rowB=true:=fun r hr=>by obtain⟨x,-,rfl⟩:=Cs.1 hr;exact Hc x
 have qF:=Mj h AA hl hs;have hr:Ag [V.str nm,iV ln,loc,u]=u.refs:=by simp[Ag,V.refs,Rb hb]
 have qI:=qF (Fr σ 9 u.refs.eraseDups) (fun i hi=>Nz σ 9 _ i (Sn.2 hi)) 7;have hi:∀ v:V,v.rowB=true->Fe σ (Fr σ 9 u.refs.eraseDups) 9 v=some v:=fun v hv=>U4 hv
 unfold Qp;rw[hr];simp only[Le,Ait,hi (.str nm) rfl,hi (iV ln) rfl,hi loc hb,qI];refine⟨_,rfl,Ra _ _,fun j hj=>Ya _ _ _ fun hm=>?_,Yp _ _⟩;rcases h with⟨rfl,-⟩ | ⟨hn,i,g,rfl,ho,qg⟩
 .grind[V.refs,Fr]
 .have:Fr σ 9 (V.refs (.sl i g 0 (B.map Sp.row).length 11 true)).eraseDups=[i]:=by
   have e1:(V.refs (.sl i g 0 (B.map Sp.row).length 11 true)).eraseDups=[i]:=by simp[V.refs,List.eraseDups_cons]
   rw[e1];have hx:Ag (B.map Sp.row).flatten=[]:=Ft (Id hs);simp[Fr,ho,Ob.refs,hx]
  grind[V.refs]
structure PW (s:St) (u2:V) (L:List Tp):Prop where
 hk:∃ uH,MKr s 2 1 uH []
 l5:5<=s.length
 z:s[0]?=some (.row [.nils,.nils] 29 0 0)
 d:s[3]?=some (.row (declsL.map Dp.row).flatten 80 0 0)
 p:s[4]?=some (.row [.sl 3 0 0 9 6 true,u2] 29 0 0)
 n0:0 ∉ fp s 2
 n3:3 ∉ fp s 2
 n4:4 ∉ fp s 2
 g:GW s 4 84 5 u2 (L.map Tp.row)
 gn:∀ j∈u2.refs,j ∉ fp s 2
theorem Ahf{s s':St}{u2 uH:V}{L:List Tp}(h:PW s u2 L)(hk:MKr s' 2 1 uH [])(w:FW 2 s s'):PW s' u2 L:=by
 obtain⟨z,n0⟩:=Ji w h.z h.n0;obtain⟨d,n3⟩:=Ji w h.d h.n3;obtain⟨p,n4⟩:=Ji w h.p h.n4;refine⟨⟨_,hk⟩,C8 h.l5 w.1,z,d,p,n0,n3,n4,Jq h.g fun i hi=>w.2.1 i (Dl h.g i hi).2 (h.gn i hi),fun j hj hm=>?_⟩;rcases w.2.2 j hm with h2 | h2
 .exact h.gn j hj h2
 .have:=(Dl h.g j hj).2;omega
def Abl{s:St}{u2:V}{L:List Tp}(h:PW s u2 L):∃ (th left:Int) (se tx ao lp:Bool) (uH:V),s[2]?=some (mO 1 th left se tx ao lp uH) /\
  ∀ (th left:Int) (se tx ao lp:Bool),PW (s.set 2 (mO 1 th left se tx ao lp uH)) u2 L:=by
 obtain⟨uH,hk⟩:=h.hk;obtain⟨th,left,se,tx,ao,lp,hr⟩:=hk.row;refine⟨th,left,se,tx,ao,lp,uH,hr,fun th left se tx ao lp=>?_⟩;obtain⟨h1,h2⟩:=Ay8 hk th left se tx ao lp
 grind[Ahf]
structure TH (s0 s:St) (nm:List UInt8) (u2:V) (L:List Tp) (uB:V) (B:List Sp):Prop where
 pw:PW s u2 L
 c5:5<=s0.length
 r:s[s0.length]?=some (.row [.str nm,iV 0,.lst 1 [[.str [97]],[.str [98]]],uB] 84 0 0)
 n:s0.length ∉ fp s 2
 g:GW s 11 98 (s0.length+1) uB (B.map Sp.row)
 gn:∀ j∈uB.refs,j ∉ fp s 2
 u2l:∀ j∈u2.refs,j<s0.length
def Bk4{s:St}{u2:V}{L:List Tp}(h:PW s u2 L)(nm:List UInt8):TH s (s++[.row [.str nm,iV 0,.lst 1 [[.str [97]],[.str [98]]],.nils] 84 0 0]) nm u2 L .nils []:=by
 obtain⟨uH,hk⟩:=h.hk;obtain⟨h1,h2⟩:=Afk hk [.row [.str nm,iV 0,.lst 1 [[.str [97]],[.str [98]]],.nils] 84 0 0] (Jl hk.cl rfl);refine⟨Ahf h h1 h2,h.l5,by simp,fun hm=>?_,D3,by simp[V.refs],fun j hj=>(Dl h.g j hj).2⟩;rw[H6 h1,<-H6 hk]at hm;exact Agh (τ:=s) hk (Aj _) hm
def Anz{s0 s s':St}{nm:List UInt8}{u2 uB uH:V}{L:List Tp}{B:List Sp}(h:TH s0 s nm u2 L uB B)(hk:MKr s' 2 1 uH [])(w:FW 2 s s'):TH s0 s' nm u2 L uB B:=by
 obtain⟨r,n⟩:=Ji w h.r h.n;refine⟨Ahf h.pw hk w,h.c5,r,n,Jq h.g fun i hi=>w.2.1 i (Dl h.g i hi).2 (h.gn i hi),fun j hj hm=>?_,h.u2l⟩;rcases w.2.2 j hm with h2 | h2
 .exact h.gn j hj h2
 .have:=(Dl h.g j hj).2;omega
def A0v{s0 s:St}{nm:List UInt8}{u2 uB:V}{L:List Tp}{B:List Sp}(h:TH s0 s nm u2 L uB B):s0.length<s.length:=(Ao.1 h.r).1
def Vg(B:List Sp):∀ r∈B.map Sp.row,r.length=11:=fun r hr=>by obtain⟨x,-,rfl⟩:=Cs.1 hr;simp[O3]
def Akx(B:List Sp):∀ r∈B.map Sp.row,r.all V.rowB=true:=fun r hr=>by obtain⟨x,-,rfl⟩:=Cs.1 hr;exact Hc x
def Amz{s0 s:St}{nm:List UInt8}{u2 uB y:V}{L:List Tp}{B C:List Sp}(h:TH s0 s nm u2 L uB B)(hy:Eu s 11 y=some (C.map Sp.row))(hb:B.length+C.length<=1000000):
  ∃ qh s',Dt 176 (11,98) uB y s=some (qh,s')/\(qh.cells=[qh]/\[qh].all V.cellB=true/\qh.cellB=true)/\s'[s0.length]?=some (.row [.str nm,iV 0,.lst 1 [[.str [97]],[.str [98]]],uB] 84 0 0)/\s'[2]?=s[2]? /\
   TH s0 (s'.set s0.length (.row [.str nm,iV 0,.lst 1 [[.str [97]],[.str [98]]],qh] 84 0 0)) nm u2 L qh (B++C):=by
 obtain⟨uH,hk⟩:=h.pw.hk;have hl:=A0v h;obtain⟨qh,s',e1,g,qa,hB,hr,hc⟩:=Pa (bytes:=176) h.g hl hy AA (Vg B) (Vg C) (Akx C) (by grind);have hf:=H6 hk
 have qB:∀ j∈fp s 2,j<s.length:=fun j hj=>by
  rw[hf]at hj;simp only[Bp]at hj;rcases hj with rfl | rfl | hj
  .grind[Mm]
  .exact Pm hk.tape
  .exact Cz hk.h j hj
 have kp:∀ j∈fp s 2,s'[j]?=s[j]?:=fun j hj=>hB j (qB j hj) fun e=>h.gn j e hj
 have k2:s'[2]?=s[2]?:=kp 2 (by grind);have qk:∀ j,j<=s0.length->s'[j]?=s[j]?:=fun j hj=>hB j AA fun e=>by have:=(Dl h.g j e).1;omega
 have hn:=h.n;have c5:=h.c5;have qc:∀ j,j≠s0.length->(s'.set s0.length (.row [.str nm,iV 0,.lst 1 [[.str [97]],[.str [98]]],qh] 84 0 0))[j]?=s'[j]?:=fun j hj=>Ce (Ne.symm hj)
 have ks:∀ j∈fp s 2,(s'.set s0.length (.row [.str nm,iV 0,.lst 1 [[.str [97]],[.str [98]]],qh] 84 0 0))[j]?=s[j]?:=fun j hj=>(qc j fun(e:j=s0.length)=>hn (by grind)).trans (kp j hj)
 have qi:fp (s'.set s0.length (.row [.str nm,iV 0,.lst 1 [[.str [97]],[.str [98]]],qh] 84 0 0)) 2=fp s 2:=by
  unfold fp;rw[ks 2 (by grind)]
 have ql:Cl (s'.set s0.length (.row [.str nm,iV 0,.lst 1 [[.str [97]],[.str [98]]],qh] 84 0 0)):=F9 (hc hk.cl) fun j hj=>by
  simp only[Ob.refs,Ag,V.refs,Ba,Cc]at hj;exact(Dl g j hj).2
 have qu:∀ j∈u2.refs,j≠s0.length/\j ∉ uB.refs:=fun j hj=>by
  have:=h.u2l j hj;exact⟨by omega,fun e=>by have:=(Dl h.g j e).1;omega⟩
 have qj:TS (s'.set s0.length (.row [.str nm,iV 0,.lst 1 [[.str [97]],[.str [98]]],qh] 84 0 0)) 1:=by
  obtain⟨z,t,l,a,h1,h2⟩:=hk.tape;exact⟨z,t,l,a,by grind,h2⟩
 have qd:=h.pw;refine⟨qh,s',e1,⟨(Jj (Cg g)).1,(Jj (Cg g)).2,Cg g⟩,(qk _ (Aj _)).trans h.r,k2,⟨⟨uH,Rt hk ql (ks 2 (by grind)) qj fun i hi=>ks i (by grind)⟩,by grind,?_,?_,?_,by rw[qi];exact qd.n0,by rw[qi];exact qd.n3,by rw[qi];exact qd.n4,?_,by rw[qi];exact qd.gn⟩,c5,Cr AA,by grind,?_,?_,h.u2l⟩
 .rw[qc 0 AA,qk 0 AA];exact qd.z
 .rw[qc 3 AA,qk 3 AA];exact qd.d
 .rw[qc 4 AA,qk 4 AA];exact qd.p
 .exact Jq qd.g fun i hi=>by rw[qc i (qu i hi).1,hB i (Dl qd.g i hi).2 (qu i hi).2]
 .rw[Fz];exact Jq g fun i hi=>qc i (by have:=(Dl g i hi).1;omega)
 .intro j hj;rw[qi];rcases hr j hj with h3 | h3
  .exact h.gn j h3
  grind
def Bk5{s0 s:St}{nm:List UInt8}{u2 uB:V}{L:List Tp}{B:List Sp}(h:TH s0 s nm u2 L uB B)(hL:L.length<=1000000):
  ∃ s1 u' s2,Qp 4 1 s [.str nm,iV 0,.lst 1 [[.str [97]],[.str [98]]],uB]=some (.lst 1 [[.str nm,iV 0,.lst 1 [[.str [97]],[.str [98]]],SL true 0 (B.map Sp.row)]],s1) /\
   Dt 72 (4,84) u2 (.lst 1 [[.str nm,iV 0,.lst 1 [[.str [97]],[.str [98]]],SL true 0 (B.map Sp.row)]]) s1=some (u',s2)/\(u'.cells=[u']/\[u'].all V.cellB=true/\u'.cellB=true)/\s2[4]?=some (.row [.sl 3 0 0 9 6 true,u2] 29 0 0) /\
   PW (s2.set 4 (.row [.sl 3 0 0 9 6 true,u'] 29 0 0)) u' (L++[⟨nm,0,true,1,[[97],[98]],true,0,B⟩]):=by
 obtain⟨uH,hk⟩:=h.pw.hk;have hl:=A0v h;have c5:=h.c5;have qd:=h.pw;obtain⟨s1,e1,l1,f1,c1⟩:=Ar0 h.g (loc:=.lst 1 [[.str [97]],[.str [98]]]) rfl nm 0;have hx:Tp.row ⟨nm,0,true,1,[[97],[98]],true,0,B⟩=[.str nm,iV 0,.lst 1 [[.str [97]],[.str [98]]],SL true 0 (B.map Sp.row)]:=rfl
 have qu:∀ j∈u2.refs,j ∉ uB.refs:=fun j hj e=>by
  have:=h.u2l j hj;have:=(Dl h.g j e).1;omega
 have g1:GW s1 4 84 5 u2 (L.map Tp.row):=Jq qd.g fun i hi=>f1 i (qu i hi)
 obtain⟨u',s2,e2,g2,qa,hB,hr,hc⟩:=Pa (bytes:=72) (y:=.lst 1 [Tp.row ⟨nm,0,true,1,[[97],[98]],true,0,B⟩]) (ys:=[Tp.row ⟨nm,0,true,1,[[97],[98]],true,0,B⟩]) g1 AA rfl AA (Va L) (by simp;rfl) (fun r hr=>by rw[Gm.1 hr,hx];simp only[B5,Db,Hn];rfl) (by grind);have hf:=H6 hk
 have qB:∀ j∈fp s 2,j<s.length:=fun j hj=>by
  rw[hf]at hj;simp only[Bp]at hj;rcases hj with rfl | rfl | hj
  .omega
  .omega
  .exact Cz hk.h j hj
 have k0:∀ j,j<s.length->j ∉ uB.refs->j ∉ u2.refs->s2[j]?=s[j]?:=fun j hj h1 h2=>by grind
 have kp:∀ j∈fp s 2,s2[j]?=s[j]?:=fun j hj=>k0 j (qB j hj) (fun e=>h.gn j e hj) fun e=>qd.gn j e hj
 have qk:∀ j,j<5->s2[j]?=s[j]?:=fun j hj=>k0 j AA (fun e=>by have:=(Dl h.g j e).1;omega) fun e=>by have:=(Dl qd.g j e).1;omega
 have qc:∀ j,j≠4->(s2.set 4 (.row [.sl 3 0 0 9 6 true,u'] 29 0 0))[j]?=s2[j]?:=fun j hj=>Ce (Ne.symm hj)
 have ks:∀ j∈fp s 2,(s2.set 4 (.row [.sl 3 0 0 9 6 true,u'] 29 0 0))[j]?=s[j]?:=fun j hj=>(qc j fun(e:j=4)=>qd.n4 (by grind)).trans (kp j hj)
 have qi:fp (s2.set 4 (.row [.sl 3 0 0 9 6 true,u'] 29 0 0)) 2=fp s 2:=by
  unfold fp;rw[ks 2 (by grind)]
 have h5:5<=s2.length:=by have:=qd.l5;omega
 have ql:Cl (s2.set 4 (.row [.sl 3 0 0 9 6 true,u'] 29 0 0)):=F9 (hc (c1 hk.cl)) fun j hj=>by
  simp only[Ob.refs,Ag,V.refs,Cc,Cu,Gm]at hj;rcases hj with rfl | hj
  .omega
  .exact(Dl g2 j hj).2
 have qj:TS (s2.set 4 (.row [.sl 3 0 0 9 6 true,u'] 29 0 0)) 1:=by
  obtain⟨z,t,l,a,h1,h2⟩:=hk.tape;exact⟨z,t,l,a,by grind,h2⟩
 refine⟨s1,u',s2,e1,by grind,⟨(Jj (Cg g2)).1,(Jj (Cg g2)).2,Cg g2⟩,(qk 4 AA).trans qd.p,⟨⟨uH,Rt hk ql (ks 2 (by grind)) qj fun i hi=>ks i (by grind)⟩,by grind,?_,?_,Cr AA,by rw[qi];exact qd.n0,by rw[qi];exact qd.n3,by rw[qi];exact qd.n4,?_,?_⟩⟩
 .rw[qc 0 AA,qk 0 AA];exact qd.z
 .rw[qc 3 AA,qk 3 AA];exact qd.d
 .rw[Fz];exact Jq g2 fun i hi=>qc i (by have:=(Dl g2 i hi).1;omega)
 .intro j hj;rw[qi];rcases hr j hj with h3 | h3
  .exact qd.gn j h3
  grind
def Aup(X:List (List UInt8)):∀ r∈X.map fun x=>[V.str x],r.length=1:=fun r hr=>by grind
def Auq(X:List (List UInt8)):∀ r∈X.map fun x=>[V.str x],r.all V.rowB=true:=fun r hr=>by obtain⟨x,-,rfl⟩:=Cs.1 hr;rfl
structure GL (lo:Nat) (σ τ:St) (u v:V) (X:List (List UInt8)):Prop where
 len:σ.length<=τ.length
 g:GW τ 1 9 lo v (X.map fun x=>[V.str x])
 kp:∀ j,j<σ.length->j ∉ u.refs->τ[j]?=σ[j]?
 rf:∀ j∈v.refs,j∈u.refs\/σ.length<=j
 cl:Cl τ
def Axc{lo:Nat}{σ:St}{u:V}{X:List (List UInt8)}(h:GW σ 1 9 lo u (X.map fun x=>[V.str x]))(hc:Cl σ):GL lo σ σ u u X:=⟨Aj _,h,fun _ _ _=>rfl,fun _ hj=>.inl hj,hc⟩
def Aai{lo:Nat}{σ τ υ:St}{u v w:V}{X Y:List (List UInt8)}(h:GL lo σ τ u v X)(h':GL lo τ υ v w Y):GL lo σ υ u w Y:=by
 refine⟨C8 h.len h'.len,h'.g,fun j hj hn=>?_,fun j hj=>?_,h'.cl⟩
 .rw[h'.kp j (by have:=h.len;omega) fun e=>?_,h.kp j hj hn];rcases h.rf j e with h2 | h2
  .grind
  .omega
 .rcases h'.rf j hj with h2 | h2
  .exact h.rf j h2
  .exact .inr (by have:=h.len;omega)
def Axd{lo:Nat}{σ τ:St}{u v:V}{X:List (List UInt8)}(h:GL lo σ τ u v X)(l:St)(hc:Cl (τ++l)):GL lo σ (τ++l) u v X:=
 ⟨by rw[Aq];have:=h.len;omega,Ix h.g,fun j hj hn=>by rw[Es (by have:=h.len;omega)];exact h.kp j hj hn,h.rf,hc⟩
def Azg{lo:Nat}{σ τ:St}{u v:V}{X:List (List UInt8)}(h:GL lo σ τ u v X)(qg:lo<=σ.length)(s:List UInt8)(hb:X.length<=1000000000):∃ v' τ',Dt 16 (1,9) v (.lst 1 [[.str s]]) τ=some (v',τ')/\v'.cellB=true/\GL lo σ τ' u v' (X++[s])/\∀ j,j<τ.length->j ∉ v.refs->τ'[j]?=τ[j]?:=by
 obtain⟨v',τ',h1,h2,h3,h4,h5,h6⟩:=Pa (bytes:=16) (y:=.lst 1 [[.str s]]) (ys:=[[.str s]]) h.g (by have:=h.len;omega) rfl AA (Aup X) AE AN (by grind);refine⟨v',τ',h1,Cg h2,Aai h ⟨h3,by grind,h4,h5,h6 h.cl⟩,h4⟩
def Oq(f:Nat)(l:List Sp):Prop:=∀ (lo:Nat) (σ:St) (u:V) (X:List (List UInt8)) (z:Bool) (t:Nat),GW σ 1 9 lo u (X.map fun x=>[V.str x])->lo<=σ.length->Cl σ->X.length+Sp.szs l<=1000000000 ->
  ∃ v τ,Bw TT PT f [u,SL z t (l.map Sp.row)] σ v τ/\GL lo σ τ u v (X++Sp.hdss l)
structure TxL (l:List Sp):Prop where
 sh:∀ x∈l,ShS x
 len:(Sp.txts 0 l).length<=2000000000
def Alz{l:List Sp}(h:TxL l){x:Sp}(hx:x∈l):ShS x/\(x.txt 0).length<=2000000000/\TxL x.body/\TxL x.els:=by
 have h1:=h.sh x hx;have h2:=Zz 0 hx;have h3:=h.len;refine⟨h1,by omega,?_⟩
 cases h1 with
 | mk a1 a2 a3 a4 a5 a6 a7 a8 a9 a10 a11 a12 a13 a14=>
  cases hb:Bv x.op
  .have e1:x.body=[]:=a11 hb;have e2:x.els=[]:=a12 fun e=>by rw[e]at hb;cases hb
   rw[e1,e2];exact⟨⟨(fun x hx=>by cases hx),by simp[Sp.txts]⟩,⟨(fun x hx=>by cases hx),by simp[Sp.txts]⟩⟩
  .have:=Bfj hb;exact⟨⟨a13,by omega⟩,⟨a14,by omega⟩⟩
def Ar1{l:List Sp}{i:Nat}{y:Sp}(h:l.drop i=y::l.drop (i+1)):Sp.hdss (l.drop i)=Ds y::(Sp.hdss y.body++(Sp.hdss y.els++Sp.hdss (l.drop (i+1)))):=by
 grind[Sp.hdss,Azb]
def Baj(y:Sp):(I7 y).row=[iV y.op,iV y.line,.str y.nm,.str y.arg,SL y.iz y.it (y.idx.map Xp.row),iV y.ex.op,iV y.ex.n,.str y.ex.nm,SL y.ex.z y.ex.t (y.ex.l.map Xp.row),.nils,.nils]:=by
 rw[Fl];rfl
def Agm:∀ l:List Sp,l.length<=Sp.szs l
 | []=>Ax _
 | x::l=>by
  have h1:=Agm l
  grind[Mc,Sp.szs]
set_option maxHeartbeats 4000000 in
def Bak{l:List Sp}(hl:TxL l)(ih:∀ x∈l,Oq 72 x.body/\Oq 72 x.els):Oq 72 l:=by
 intro lo σ u X z t hg qg hc hX;have qa:(l.map Sp.row).length=l.length:=Ar ..;refine Aeu T72 rfl ?_;simp only[go_sem,qa];refine Bk (α:=Nat × St × V × List (List UInt8)) (fun a=>l.length - a.1) (fun a=>[(0,a.2.2.1),(9,SL z t (l.map Sp.row)),(10,iV (l.length:Int)),(11,iV (a.1:Int))]) (fun a=>a.2.1) (fun a=>a.1<=l.length/\GL lo σ a.2.1 u a.2.2.1 a.2.2.2/\a.2.2.2++Sp.hdss (l.drop a.1)=X++Sp.hdss l) ?_ (0,σ,u,X) ⟨Ax _,Axc hg hc,rfl⟩;rintro⟨i,s,v,Y⟩ ⟨hi,hG,hY⟩ jh;simp only at hi hG hY jh;have qx:=congrArg List.length hY;rw[Aq,Aq,Lj,Lj]at qx;have qf:=Cg hG.g;refine Bd Bpu ?_;rcases Bh i l.length with h' | h';rotate_left
 .rw[D1 h',Sp.hdss,Cc]at hY;subst hY;simp only[go_sem,Bl h'];exact⟨v,rfl,⟨by cases v<;>simp[V.cellB]at qf<;>rfl,fun j hj=>(Dl hG.g j hj).2⟩,⟨hG.len,hG.cl⟩,hG⟩
 obtain⟨y,hy,hd,hm⟩:=Br h';obtain⟨qp,jt,jf,jg⟩:=Alz hl hm;have jp:=Agm l;have qb:=Fl y;have qe:=Hc y;have hq:=At0 (Amm qp) 0 AA;obtain⟨r,hr⟩:=Aoy y;have qU:=(ixU 10 (Ds y) r (Aw8 qp)).2;rw[<-hr]at qU;have jn:=Aw9 y
 have jz:Ur [.str (y.txt 0),.int .u8 10]=some (iV ((Ds y).length:Int)):=by
  show some (iV (Lib.indexByte (y.txt 0) 10))=_;rw[qU]
 obtain⟨s1,e1⟩:∃ s1:St,s1=s++[.row y.row 98 0 0]:=⟨_,rfl⟩;have k1:s1[s.length]?=some (.row y.row 98 0 0):=by rw[e1];simp
 have G1:GL lo σ s1 u v Y:=by rw[e1];exact Axd hG _ (Jl hG.cl qe)
 have jv:∀ j∈v.refs,j<s.length:=fun j hj=>(Dl hG.g j hj).2
 have qz:=Ar1 hd;rw[qz]at hY;have qJ:Sp.szs (l.drop i)=y.sz+Sp.szs (l.drop (i+1)):=by rw[hd,Sp.szs]
 have jx:=Mc y;obtain⟨v2,s2,ha,ji,G2,qO⟩:=Azg G1 qg (Ds y) AA;have k2:s2[s.length]?=_:=(qO s.length (by grind) fun e=>by grind).trans k1
 have n2:s.length ∉ v2.refs:=fun e=>by
  have h9:∀ j∈v2.refs,j∈v.refs\/s1.length<=j:=by
   obtain⟨q1,-⟩:=Agl ha rfl AN (Akw G1.g);exact q1
  grind
 obtain⟨v3,s3,q3,G3⟩:=(ih y hm).1 lo s2 v2 (Y++[Ds y]) y.bz y.bt G2.g (by have:=G2.len;omega) G2.cl (by grind);have l2:s.length<s2.length:=(Ao.1 k2).1;have k3:s3[s.length]?=_:=(G3.kp s.length l2 n2).trans k2
 have n3:s.length ∉ v3.refs:=fun e=>by
  rcases G3.rf _ e with h8 | h8
  .grind
  .omega
 have l3:s.length<s3.length:=(Ao.1 k3).1;obtain⟨v4,s4,q4,G4⟩:=(ih y hm).2 lo s3 v3 (Y++[Ds y]++Sp.hdss y.body) y.ez y.et G3.g (by have:=G2.len;have:=G3.len;omega) G3.cl (by grind[Lj]);have G14:=Aai G2 (Aai G3 G4);rw[qb]at e1 k1 k2 k3 hq qe;have f0:(0<=((Ds y).length:Int))=True:=eq_true AA;have ja:((Ds y).length<=(y.txt 0).length)=True:=eq_true AA;have jc:(y.txt 0).take (Ds y).length=Ds y:=by rw[hr];simp
 rw[Int.natCast_zero]at hq;simp only[go_sem,Az h',Au,hy,qb];rw[<-e1];refine Ab hq AB ?_;simp only[go_sem];refine Fm P91 AB jz ?_;simp only[go_sem,ge_iff_le,f0,ja,jc,ha,k2];refine Aa q3 ?_;simp only[go_sem,k3];refine Aa q4 ?_;simp only[go_sem,A2 (show i<9223372036854775807 by omega)];refine Av (jh (i+1,s4,v4,Y++[Ds y]++Sp.hdss y.body++Sp.hdss y.els) AA ⟨h',G14,by grind⟩) rfl
set_option maxHeartbeats 4000000 in
def Bal{l:List Sp}(hl:TxL l)(ih:∀ x∈l,Oq 70 x.body/\Oq 70 x.els):Oq 70 l:=by
 intro lo σ u X z t hg qg hc hX;have qa:(l.map Sp.row).length=l.length:=Ar ..;refine Aeu T70 rfl ?_;simp only[go_sem,qa];refine Bk (α:=Nat × St × V × List (List UInt8)) (fun a=>l.length - a.1) (fun a=>[(0,a.2.2.1),(11,SL z t (l.map Sp.row)),(12,iV (l.length:Int)),(13,iV (a.1:Int))]) (fun a=>a.2.1) (fun a=>a.1<=l.length/\GL lo σ a.2.1 u a.2.2.1 a.2.2.2/\a.2.2.2++Sp.hdss (l.drop a.1)=X++Sp.hdss l) ?_ (0,σ,u,X) ⟨Ax _,Axc hg hc,rfl⟩;rintro⟨i,s,v,Y⟩ ⟨hi,hG,hY⟩ jh;simp only at hi hG hY jh;have qx:=congrArg List.length hY;rw[Aq,Aq,Lj,Lj]at qx;have qf:=Cg hG.g;refine Bd Bpr ?_;rcases Bh i l.length with h' | h';rotate_left
 .rw[D1 h',Sp.hdss,Cc]at hY;subst hY;simp only[go_sem,Bl h'];exact⟨v,rfl,⟨by cases v<;>simp[V.cellB]at qf<;>rfl,fun j hj=>(Dl hG.g j hj).2⟩,⟨hG.len,hG.cl⟩,hG⟩
 obtain⟨y,hy,hd,hm⟩:=Br h';obtain⟨qp,jt,jf,jg⟩:=Alz hl hm;have jp:=Agm l;have qb:=Fl y;have qe:=Hc y;have qP:=Baj y;have qQ:=Hc (I7 y);obtain⟨⟨r,hr⟩,jB⟩:=Bab y;have jn:=Aw9 y;have hq:=A98 (Bfi (Amm qp)) 0 AA (by grind[Mc,I7,Sp.szs]);have qR:=Bsc (c:=10) (r:=r) (Aw8 qp);rw[<-hr]at qR
 have jy:Acb [.str ((I7 y).txt 0),.str [10]]=some (.tup [.str (Ds y),.str r,.bool true]):=by
  show(if((I7 y).txt 0).length<4294967281 then some (V.tup [.str (Lib.cut ((I7 y).txt 0) [10]).1,.str (Lib.cut ((I7 y).txt 0) [10]).2.1,.bool (Lib.cut ((I7 y).txt 0) [10]).2.2]) else none)=_;rw[if_pos AA,qR]
 have c1:Cl (s++[.row y.row 98 0 0,.row (I7 y).row 98 0 0]):=by
  have:=Jl (t:=98) (Jl (t:=98) hG.cl qe) qQ;simpa using this
 obtain⟨s1,e1⟩:∃ s1:St,s1=s++[.row y.row 98 0 0,.row (I7 y).row 98 0 0]:=⟨_,rfl⟩;have k1:s1[s.length]?=some (.row y.row 98 0 0):=by rw[e1];simp
 have l1:s1.length=s.length+2:=by rw[e1];simp
 have G1:GL lo σ s1 u v Y:=by rw[e1];exact Axd hG _ c1
 have jv:∀ j∈v.refs,j<s.length:=fun j hj=>(Dl hG.g j hj).2
 have qz:=Ar1 hd;rw[qz]at hY;have qJ:Sp.szs (l.drop i)=y.sz+Sp.szs (l.drop (i+1)):=by rw[hd,Sp.szs]
 have jx:=Mc y;obtain⟨v2,s2,ha,ji,G2,qO⟩:=Azg G1 qg (Ds y) AA;have k2:s2[s.length]?=_:=(qO s.length AA fun e=>by grind).trans k1
 have n2:s.length ∉ v2.refs:=fun e=>by
  have h9:∀ j∈v2.refs,j∈v.refs\/s1.length<=j:=by
   obtain⟨q1,-⟩:=Agl ha rfl AN (Akw G1.g);exact q1
  grind
 obtain⟨v3,s3,q3,G3⟩:=(ih y hm).1 lo s2 v2 (Y++[Ds y]) y.bz y.bt G2.g (by have:=G2.len;omega) G2.cl (by grind);have l2:s.length<s2.length:=(Ao.1 k2).1;have k3:s3[s.length]?=_:=(G3.kp s.length l2 n2).trans k2;obtain⟨v4,s4,q4,G4⟩:=(ih y hm).2 lo s3 v3 (Y++[Ds y]++Sp.hdss y.body) y.ez y.et G3.g (by have:=G2.len;have:=G3.len;omega) G3.cl (by grind[Lj]);have G14:=Aai G2 (Aai G3 G4);rw[qb,qP]at e1;rw[qb]at k1 k2 k3 qe;rw[qP]at hq qQ;rw[Int.natCast_zero]at hq;simp only[go_sem,Az h',Au,hy,qb];rw[<-e1];refine Ab hq AB ?_;simp only[go_sem];refine Fm P118 AB jy ?_;simp only[go_sem,ha,k2];refine Aa q3 ?_;simp only[go_sem,k3];refine Aa q4 ?_;simp only[go_sem,A2 (show i<9223372036854775807 by omega)];refine Av (jh (i+1,s4,v4,Y++[Ds y]++Sp.hdss y.body++Sp.hdss y.els) AA ⟨h',G14,by grind⟩) rfl
def Agn{f:Nat}(hs:∀ l,TxL l->(∀ x∈l,Oq f x.body/\Oq f x.els)->Oq f l):∀ (N:Nat) (l:List Sp),TxL l->Sp.szs l<=N->Oq f l
 | 0,l,h,hz=>hs l h fun x hx=>by
  have:=Aav hx
  grind[Mc]
 | N+1,l,h,hz=>hs l h fun x hx=>by
  obtain⟨-,-,h1,h2⟩:=Alz h hx;have:=Aav hx;have:=Mc x;exact⟨Agn hs N _ h1 AA,Agn hs N _ h2 AA⟩
def Bk6{l:List Sp}(h:TxL l):Oq 72 l:=Agn (fun _=>Bak) _ l h (Aj _)
def Bk7{l:List Sp}(h:TxL l):Oq 70 l:=Agn (fun _=>Bal) _ l h (Aj _)
def Dh(t:Tp):List V:=[SL true 0 ((Sp.hdss t.body).map fun x=>[V.str x])]
def Aur{σ:St}{lo e:Nat}{u:V}{X:List (List UInt8)}(h:GW σ 1 e lo u (X.map fun x=>[V.str x])):
  ∃ σ',Qp 1 1 σ [u]=some (.lst 1 [[SL true 0 (X.map fun x=>[V.str x])]],σ')/\σ'.length=σ.length/\(∀ j,j ∉ u.refs->σ'[j]?=σ[j]?)/\(Cl σ->Cl σ'):=by
 have qF:=Mj h AA (Aup X) (Auq X);have hr:Ag [u]=u.refs:=by simp[Ag]
 have qI:=qF (Fr σ 9 u.refs.eraseDups) (fun i hi=>Nz σ 9 _ i (Sn.2 hi)) 7;unfold Qp;rw[hr];simp only[Le,Ait,qI];refine⟨_,rfl,Ra _ _,fun j hj=>Ya _ _ _ fun hm=>?_,Yp _ _⟩;rcases h with⟨rfl,-⟩ | ⟨hn,i,g,rfl,ho,qg⟩
 .grind[V.refs,Fr]
 .have:Fr σ 9 (V.refs (.sl i g 0 (X.map fun x=>[V.str x]).length 1 true)).eraseDups=[i]:=by
   have e1:(V.refs (.sl i g 0 (X.map fun x=>[V.str x]).length 1 true)).eraseDups=[i]:=by simp[V.refs,List.eraseDups_cons]
   rw[e1];have hx:Ag (X.map fun x=>[V.str x]).flatten=[]:=Ft (Id (Auq X));simp[Fr,ho,Ob.refs,hx]
  grind[V.refs]
structure PX (p:Gp):Prop where
 few:p.thrs.length<=100000000
 tx:∀ t∈p.thrs,TxL t.body
 sz:∀ t∈p.thrs,Sp.szs t.body<=10000
def Bqr{p:Gp}(h:ShG p)(hl:(Ff p).length<=1000000000)(hs:∀ t∈p.thrs,Sp.szs t.body<=10000):PX p:=by
 have qS:((p.thrs.map D9).flatten).length<=(Ff p).length:=by unfold Ff;simp
 have qE:∀ (L:List Tp),10*L.length<=((L.map D9).flatten).length/\∀ t∈L,(D9 t).length<=((L.map D9).flatten).length:=fun L=>by
  induction L with
  | nil=>grind
  | cons a l ih=>
   have h1:10<=(D9 a).length:=by unfold D9;simp;omega
   grind
 refine⟨by grind,fun t ht=>⟨h.thrs t ht,?_⟩,hs⟩;have h1:=(qE p.thrs).2 t ht;have h2:=Xf t.body 0 1 AA;have h3:(Sp.txts 1 t.body).length<=(D9 t).length:=by unfold D9;simp;omega
 omega
def Ago(L:List Tp):∀ r∈L.map Dh,r.length=1:=fun r hr=>by obtain⟨x,-,rfl⟩:=Cs.1 hr;rfl
def Agp(L:List Tp):∀ r∈L.map Dh,r.all V.rowB=true:=fun r hr=>by
 obtain⟨x,-,rfl⟩:=Cs.1 hr
 grind[Dh,Hn]
theorem F1(x:Gp):x.row=(gR x):=rfl
def Ue(t:Tp):t.row=(tR t):=rfl
def Uf(x:Gp):x.row.all V.rowB=true:=by
 grind[Gp.row,Hn]
def A0w(x:Tp):x.row.all V.rowB=true:=by
 rw[Ue];simp only[B5,Db,Hn];rfl
def Axe{σ:St}{lo m e bytes:Nat}{u:V}{xs:List (List V)}{row:List V}(h:GV σ m e lo u xs)(qg:lo<=σ.length)(hm:0<m)(hl:∀ r∈xs,r.length=m)(jD:row.length=m)(hr:row.all V.rowB=true)(hb:(xs.length+1)*bytes<=140737488355328)(hc:Cl σ):
  ∃ u' σ',Dt bytes (m,e) u (.lst 1 [row]) σ=some (u',σ')/\GV σ' m e lo u' (xs++[row])/\u'.cellB=true/\σ.length<=σ'.length/\(∀ j,j<σ.length->j ∉ u.refs->σ'[j]?=σ[j]?)/\Cl σ':=by
 obtain⟨u',σ',h1,h2,h3,h4,-⟩:=Ame (bytes:=bytes) (y:=.lst 1 [row]) (ys:=[row]) h qg rfl hm hl (fun r hr=>by grind) hb
 obtain⟨-,h6⟩:=Agl h1 rfl (fun r hx=>by grind) (by
  rcases h with⟨rfl,-⟩ | ⟨i,g,rfl,-⟩
  .grind
  grind)
 grind[Av7,V.refs]
def Azh{σ τ:St}{m e lo:Nat}{u:V}{xs:List (List V)}(h:GV σ m e lo u xs)(hk:∀ i∈u.refs,τ[i]?=σ[i]?):GV τ m e lo u xs:=by
 rcases h with h | ⟨i,g,h,ho,qg⟩
 .exact .inl h
 .exact .inr ⟨i,g,h,by grind[V.refs],qg⟩
def Azi{σ:St}{m e lo:Nat}{u:V}{xs:List (List V)}(h:GV σ m e lo u xs):∀ i∈u.refs,lo<=i/\i<σ.length:=by
 intro j hj;rcases h with⟨rfl,-⟩ | ⟨i,g,rfl,ho,qg⟩
 .grind[V.refs]
 grind[V.refs]
set_option maxHeartbeats 4000000 in
def A6p{p:Gp}(h:PX p):∃ z,Fn TT PT 41 [.agg p.row] (SL z 0 (p.thrs.map Dh)):=by
 have qa:(p.thrs.map Tp.row).length=p.thrs.length:=Ar ..;have qn:=Uf p;have qG:=F1 p;have qA:=h.few;refine⟨true,Bg T41 rfl ?_⟩;have c0:Cl [.row p.row 29 0 0]:=Jl (s:=[]) (fun _ h=>by cases h) qn;rw[qG]at c0 qn ⊢;simp only[go_sem,qa];refine Bk (α:=Nat × St × V) (fun a=>p.thrs.length - a.1) (fun a=>[(3,a.2.2),(7,SL p.tz p.tt (p.thrs.map Tp.row)),(8,iV (p.thrs.length:Int)),(9,iV (a.1:Int))]) (fun a=>a.2.1) (fun a=>a.1<=p.thrs.length/\(GV a.2.1 1 81 1 a.2.2 ((p.thrs.take a.1).map Dh)/\(a.1=0->a.2.2=.nils)/\(a.1≠0->a.2.2≠.nils))/\Cl a.2.1/\1<=a.2.1.length) ?_ (0,_,.nils) ⟨Ax _,⟨Bja,fun _=>rfl,fun h=>absurd rfl h⟩,c0,Aj _⟩;rintro⟨i,s,u⟩ ⟨hi,⟨hg,ju,qt⟩,hc,qH⟩ ih;simp only at hi hg ju qt hc qH ih;refine Bd Bpc ?_;rcases Bh i p.thrs.length with h' | h';rotate_left
 .have qD:i=p.thrs.length:=by omega
  subst qD;rw[Dq]at hg;simp only[go_sem,Bl h']
  have jm:GW s 1 81 1 u (p.thrs.map Dh):=by
   rcases hg with hg | hg
   .exact .inl hg
   .refine .inr ⟨fun e=>?_,hg⟩
    grind
  exact Tr jm AA (Ago _) (Agp _)
 obtain⟨x,hx,hd,hm⟩:=Br h';have qb:=Ue x;have qe:=A0w x;have qJ:=h.sz x hm;obtain⟨s1,e1⟩:∃ s1:St,s1=s++[.row x.row 84 0 0]:=⟨_,rfl⟩;have c1:Cl s1:=by rw[e1];exact Jl hc qe
 have l1:s1.length=s.length+1:=by rw[e1];simp
 obtain⟨v,s2,q2,G2⟩:=Bk6 (h.tx x hm) s1.length s1 .nils [] x.bz x.bt D3 (Aj _) c1 (by grind);rw[Ba]at G2;obtain⟨s3,e3,l3,f3,c3⟩:=Aur G2.g;have qL:∀ j∈u.refs,j<s.length:=fun j hj=>(Azi hg j hj).2
 have kk:∀ j,j<s.length->s3[j]?=s[j]?:=fun j hj=>by
  rw[f3 j fun e=>by have:=(Dl G2.g j e).1;omega,G2.kp j AA AS,e1,Es hj]
 have qC:GV s3 1 81 1 u ((p.thrs.take i).map Dh):=Azh hg fun j hj=>kk j (qL j hj)
 have qr:=Cg G2.g;obtain⟨qM,qN⟩:=Jj qr;obtain⟨u',s4,e4,g4,qf,l4,k4,c4⟩:=Axe (bytes:=24) (row:=Dh x) qC (by grind) AA (Ago _) rfl (Agp [x] _ AE) (by grind) (c3 G2.cl)
 have qK:(p.thrs.take i).map Dh++[Dh x]=(p.thrs.take (i+1)).map Dh:=by
  rw[M3,hx];simp
 rw[qK]at g4;rw[show Dh x=[SL true 0 ((Sp.hdss x.body).map fun x=>[V.str x])] from rfl]at e4;rw[qb]at e1;simp only[go_sem,Az h',Au,hx,qb];rw[<-e1];refine Aa q2 ?_;simp only[go_sem,qM,qN,qr,e3,e4,A2 (show i<9223372036854775807 by omega)];refine Av (ih (i+1,s4,u') AA ⟨h',⟨g4,fun h=>by simp at h,fun _ e=>?_⟩,c4,by grind⟩) rfl;rcases g4 with⟨-,g4⟩ | ⟨_,_,g4,-⟩
 .simp_all
 grind
set_option maxHeartbeats 4000000 in
def Ajx{p:Gp}(h:PX p):Fn TT PT 39 [.agg p.row] (.lst 0 (p.thrs.map Dh)):=by
 have qa:(p.thrs.map Tp.row).length=p.thrs.length:=Ar ..;have qn:=Uf p;have qG:=F1 p;have qA:=h.few;refine Bg T39 rfl ?_;have c0:Cl [.row p.row 29 0 0,.row [] 81 0 0]:=Jl (s:=[.row p.row 29 0 0]) (Jl (s:=[]) (fun _ h=>by cases h) qn) rfl;rw[qG]at c0 qn ⊢;have jb:(0<=(p.thrs.length:Int))=True:=eq_true AA;have qv:(p.thrs.length*24<=140737488355328)=True:=eq_true AA;simp only[go_sem,qa,jb,qv,Nr,Int.toNat_zero,List.replicate_zero,Zg,Ads];refine Bk (α:=Nat × St × V) (fun a=>p.thrs.length - a.1) (fun a=>[(3,a.2.2),(11,SL p.tz p.tt (p.thrs.map Tp.row)),(12,iV (p.thrs.length:Int)),(13,iV (a.1:Int))]) (fun a=>a.2.1) (fun a=>a.1<=p.thrs.length/\(GV a.2.1 1 81 1 a.2.2 ((p.thrs.take a.1).map Dh)/\a.2.2≠.nils)/\Cl a.2.1/\1<=a.2.1.length) ?_ (0,_,.sl 1 0 0 0 1 true) ⟨Ax _,⟨.inr ⟨1,0,rfl,rfl,Aj _⟩,fun h=>by cases h⟩,c0,by simp⟩;rintro⟨i,s,u⟩ ⟨hi,⟨hg,qt⟩,hc,qH⟩ ih;simp only at hi hg qt hc qH ih;refine Bd Bo9 ?_;rcases Bh i p.thrs.length with h' | h';rotate_left
 .have qD:i=p.thrs.length:=by omega
  subst qD;rw[Dq]at hg;simp only[go_sem,Bl h'];rcases hg with⟨e,-⟩ | ⟨i,g,rfl,ho,-⟩
  .exact absurd e qt
  .exact Ag5 ho AA (Ago _) (Agp _)
 obtain⟨x,hx,hd,hm⟩:=Br h';have qb:=Ue x;have qe:=A0w x;have qJ:=h.sz x hm;obtain⟨s1,e1⟩:∃ s1:St,s1=s++[.row x.row 84 0 0]:=⟨_,rfl⟩;have c1:Cl s1:=by rw[e1];exact Jl hc qe
 have l1:s1.length=s.length+1:=by rw[e1];simp
 obtain⟨v,s2,q2,G2⟩:=Bk7 (h.tx x hm) s1.length s1 .nils [] x.bz x.bt D3 (Aj _) c1 (by grind);rw[Ba]at G2;obtain⟨s3,e3,l3,f3,c3⟩:=Aur G2.g;have qL:∀ j∈u.refs,j<s.length:=fun j hj=>(Azi hg j hj).2
 have kk:∀ j,j<s.length->s3[j]?=s[j]?:=fun j hj=>by
  rw[f3 j fun e=>by have:=(Dl G2.g j e).1;omega,G2.kp j AA AS,e1,Es hj]
 have qC:GV s3 1 81 1 u ((p.thrs.take i).map Dh):=Azh hg fun j hj=>kk j (qL j hj)
 have qr:=Cg G2.g;obtain⟨qM,qN⟩:=Jj qr;obtain⟨u',s4,e4,g4,qf,l4,k4,c4⟩:=Axe (bytes:=24) (row:=Dh x) qC (by grind) AA (Ago _) rfl (Agp [x] _ AE) (by grind) (c3 G2.cl)
 have qK:(p.thrs.take i).map Dh++[Dh x]=(p.thrs.take (i+1)).map Dh:=by
  rw[M3,hx];simp
 rw[qK]at g4;rw[show Dh x=[SL true 0 ((Sp.hdss x.body).map fun x=>[V.str x])] from rfl]at e4;rw[qb]at e1;simp only[go_sem,Az h',Au,hx,qb];rw[<-e1];refine Aa q2 ?_;simp only[go_sem,qM,qN,qr,e3,e4,A2 (show i<9223372036854775807 by omega)];refine Av (ih (i+1,s4,u') AA ⟨h',⟨g4,fun e=>?_⟩,c4,by grind⟩) rfl;rcases g4 with⟨-,g4⟩ | ⟨_,_,g4,-⟩
 .simp_all
 grind
/-! keys -/
def J4(nm ln:List UInt8)(n:Nat):List V:=[.str nm,.str ln,iV (n:Int)]
def F2(nm:List UInt8):List (List UInt8)->List (List UInt8)->List (List V)
 | _,[]=>[]
 | P,x::X=>J4 nm x (P.count x)::F2 nm (P++[x]) X
def Hr(p:Gp):List (List V):=(p.thrs.map fun t=>F2 t.nm [] (Sp.hdss t.body)).flatten
theorem Z0(nm:List UInt8):∀ (X P:List (List UInt8)),(F2 nm P X).length=X.length
 | [],_=>rfl
 | x::X,P=>by rw[F2,An,Z0 nm X,An]
theorem Afm(nm:List UInt8):∀ (X P:List (List UInt8)),∀ r∈F2 nm P X,r.length=3/\r.all V.rowB=true
 | [],_,r,hr=>by cases hr
 | x::X,P,r,hr=>by
  rw[F2]at hr;rcases Bp.1 hr with rfl | hr
  .exact⟨rfl,rfl⟩
  .exact Afm nm X _ r hr
def Xy(L:List Tp):∀ r∈(L.map fun t=>F2 t.nm [] (Sp.hdss t.body)).flatten,r.length=3/\r.all V.rowB=true:=fun r hr=>by
 obtain⟨l,hl,hr⟩:=Aio.1 hr;obtain⟨t,-,rfl⟩:=Cs.1 hl
 grind[Afm]
def Ajy(L:List Tp):((L.map fun t=>F2 t.nm [] (Sp.hdss t.body)).flatten).length=(L.map fun t=>Sp.szs t.body).sum:=by
 induction L with
 | nil=>rfl
 | cons a l ih=>grind[Z0,Lj]
