/- Walks: a program as the static rules see it. -/
import Derived.Test.YtcoeikinocflnaaGreatDoorIf
import Derived.Test.YtcoeikinocflnaaGreatDoorLn
set_option linter.all false
namespace Go.Proofs.YtcoeikinocflnaaGreatDoor.KM
open Go
theorem Acl{p:Gp}(hp:LnG p):∀ (N:Nat) (l:List Sp),Ck (l.map Sp.row)<=N->N<=1000000000->Ze p l
 | 0,l,h,hN=>Ahv hp (by omega) fun x hx=>by
  have h1:=Hf (f:=Sp.row) hx;have h2:=Ju x;omega
 | N+1,l,h,hN=>Ahv hp (by omega) fun x hx=>by
  have h1:=Hf (f:=Sp.row) hx;have h2:=Ju x;exact⟨Acl hp N x.body (by omega) (by omega),Acl hp N x.els (by omega) (by omega)⟩
def J3(l:List Tp):Nat:=(l.map fun t=>Sp.szs t.body).sum
set_option maxHeartbeats 4000000 in
theorem Arf{p:Gp}(hb:Ct p.row<=1000000000)(hp:LnG p)(hz:J3 p.thrs<=1000000):∃ v,Fn TT PT 53 [.agg p.row] v/\Sw v:=by
 have hs:=Ax9 p hb;have hbg:=Add p;obtain⟨_,qd,ed,ld,rfl⟩:=Aox p.dz p.dt p.decls hp.d;obtain⟨_,qt,et,lt,rfl⟩:=Anc hp;have hps:=Yy p;have n2:(p.thrs.map Tp.row).length=p.thrs.length:=Bl ..;have ht:=hp.t;obtain⟨hx1,hx2⟩:=Aug hps;rw[Pv]at hs qt hps ⊢;have fin:∀ (s:St) (e ln:Int),∃ v,some (V.tup [.int .i64 e,.int .i64 ln])=some v/\(Cc v=true/\v.refs=[]/\Dw [] v=some v)/\Sw v:=fun _ e ln=>⟨_,rfl,⟨rfl,rfl,rfl⟩,e,ln,rfl⟩
 refine K5 T53 rfl ?_;cases hsh:Zn p
 ·rw[hsh]at hs;simp only[go_sem];refine Ad hs (by simp only[go_sem]) ?_;simp only[go_sem,Av];exact fin [] _ _
 rw[hsh]at hs;simp only[go_sem];refine Ad hs (by simp only[go_sem]) ?_;simp only[go_sem,Ap];refine Ad qd (by simp only[go_sem]) ?_;cases y1:(ed==0)
 ·simp only[go_sem,y1,bne,Av];exact fin [] _ _
 by_cases g1:4<p.thrs.length
 ·have f1:((4:Int)<(p.thrs.length:Int))=True:=eq_true (by omega);simp only[go_sem,y1,bne,Ap,n2,gt_iff_lt,f1];exact fin [] _ _
 have f1:((4:Int)<(p.thrs.length:Int))=False:=eq_false (by omega);simp only[go_sem,y1,bne,Ap,n2,gt_iff_lt,f1];refine Ad qt (by simp only[go_sem]) ?_;cases y2:(et==0)
 ·simp only[go_sem,y2,bne,Av];exact fin [] _ _
 simp only[go_sem,y2,bne,Ap];refine B9 (α:=Nat × Int) (fun a=>p.thrs.length - a.1) (fun a=>[(1,.ptr 0 0 0),(8,.int .i64 a.2),(9,.int .i64 (a.1:Int))]) (fun _=>[.row [SL p.dz p.dt (p.decls.map Dp.row),SL p.tz p.tt (p.thrs.map Tp.row)] 27 0 0]) (fun a=>a.1<=p.thrs.length) ?_ (0,0) (A2 _);rintro⟨i,n⟩ hi ih;simp only at hi ih;refine Ca (by delta lp53_0;exact rfl) ?_;rcases Bx i p.thrs.length with h' | h'
 ·obtain⟨x,hx,-,hm⟩:=Dd h';have hbt:=Hf (f:=Tp.row) hm;rw[Vb]at hbt;have hrow:x.row=[.str x.nm,.int .i64 x.line,SL x.lz x.lt (x.locals.map fun s=>[V.str s]),SL x.bz x.bt (x.body.map Sp.row)]:=rfl;obtain⟨_,qc,c,rfl⟩:=Abf 1000000000 x.bz x.bt x.body (by omega) (Ah _);simp only[go_sem,n2,B7 h',Bb,hx,hrow];refine Ad qc (by simp only[go_sem]) ?_;simp only[go_sem,Bg (show i<9223372036854775807 by omega)];exact Bi (ih (i+1,_) (by simp only;omega) h') rfl
 clear ih;by_cases g2:60<n
 ·have f2:((60:Int)<n)=True:=eq_true g2;simp only[go_sem,n2,Cr h',gt_iff_lt,f2];exact fin [] _ _
 have f2:((60:Int)<n)=False:=eq_false g2;simp only[go_sem,n2,Cr h',gt_iff_lt,f2,hx1,hx2]
 have wk0:WK [.row [SL p.dz p.dt (p.decls.map Dp.row),SL p.tz p.tt (p.thrs.map Tp.row)] 27 0 0,.row [SL p.dz p.dt (p.decls.map Dp.row),SL p.tz p.tt (p.thrs.map Tp.row),.int .i64 0,.nils,.nils,.nils] 155 0 0] 1 p 0 .nils .nils .nils (([]:List Sp).map Sp.row) (([]:List (List UInt8)).map fun x=>[V.str x]) (([]:List (List UInt8)).map fun x=>[V.str x]):=by
  refine⟨rfl,Uy,Uy,Uy,by simp[V.refs],by simp[V.refs],by simp[V.refs],?_⟩;intro ob hm j hj;simp only[Be,Oy,or_false]at hm;rcases hm with rfl | rfl
  ·simp[Ob.refs,Aj,Ky]at hj
  ·simp[Ob.refs,Aj,Ky,V.refs]at hj
 refine B9 (α:=Nat × St × Int × V × V × V × List (List UInt8) × List (List UInt8)) (fun a=>p.thrs.length - a.1) (fun a=>[(1,.ptr 0 0 0),(10,.ptr 1 0 0),(11,.int .i64 (a.1:Int))]) (fun a=>a.2.1)
  (fun a=>a.1<=p.thrs.length/\WK a.2.1 1 p a.2.2.1 a.2.2.2.1 a.2.2.2.2.1 a.2.2.2.2.2.1 (([]:List Sp).map Sp.row) (a.2.2.2.2.2.2.1.map fun x=>[V.str x]) (a.2.2.2.2.2.2.2.map fun x=>[V.str x])/\(a.2.1[0]?=some (.row [SL p.dz p.dt (p.decls.map Dp.row),SL p.tz p.tt (p.thrs.map Tp.row)] 27 0 0)/\0 ∉ fp a.2.1 1)/\a.2.2.2.2.2.2.1.length+J3 (p.thrs.drop a.1)<=1000000/\a.2.2.2.2.2.2.2.length+J3 (p.thrs.drop a.1)<=1000000) ?_ (0,_,0,_,_,_,[],[]) ⟨A2 _,wk0,⟨rfl,by rw[N7 wk0];simp[V.refs]⟩,by simpa using hz,by simpa using hz⟩
 clear wk0 hi h' i g2 f2 n;rintro⟨i,s,th,uA,uS,uT,S,T⟩ ⟨hi,h1,⟨hs0,hn0⟩,hS,hT⟩ ih;simp only at hi h1 hs0 hn0 hS hT ih;refine Ca (by delta lp53_1;exact rfl) ?_;rcases Bx i p.thrs.length with h' | h';rotate_left
 ·simp only[go_sem,hs0,n2,Cr h'];exact fin [] _ _
 obtain⟨x,hx,hd,hm⟩:=Dd h';have hbt:=Hf (f:=Tp.row) hm;rw[Vb]at hbt;have hrow:x.row=[.str x.nm,.int .i64 x.line,SL x.lz x.lt (x.locals.map fun s=>[V.str s]),SL x.bz x.bt (x.body.map Sp.row)]:=rfl;have hsz:J3 (p.thrs.drop i)=Sp.szs x.body+J3 (p.thrs.drop (i+1)):=by rw[hd];simp[J3]
 obtain⟨h2,f2⟩:=U0 (th':=(i:Int)) h1 (Ah _) (fun _ _ _ _ _=>rfl) h1.a h1.s h1.t (fun j hj=>.inl hj) (fun j hj=>.inl hj) (fun j hj=>.inl hj) (fun j hj=>(h1.ad j hj).2) (fun j hj=>(h1.sd j hj).2) h1.cl;obtain⟨_,s2,q,⟨e,ln,rfl,vA,vS,vT,S2,T2,h3,f3,bS,bT⟩⟩:=Acl hp 1000000000 x.body (by omega) (Ah _) _ _ _ _ _ _ [] S T x.bz x.bt h2 (by simp) (by omega) (by omega);have hr:=h1.row;have f13:=Ee f2 f3;have l0:=(Ar.1 hs0).1;have k2:s2[0]?=_:=(f13.2.1 0 l0 hn0).trans hs0;have k1:(s.set 1 (.row [SL p.dz p.dt (p.decls.map Dp.row),SL p.tz p.tt (p.thrs.map Tp.row),.int .i64 (i:Int),uA,uS,uT] 155 0 0))[0]?=some (.row [SL p.dz p.dt (p.decls.map Dp.row),SL p.tz p.tt (p.thrs.map Tp.row)] 27 0 0):=by rw[Bc (by omega)];exact hs0
 have hn2:0 ∉ fp s2 1:=fun hm=>by
  rcases f13.2.2 0 hm with h4 | h4
  ·exact hn0 h4
  ·omega
 simp only[go_sem,hs0,n2,B7 h',hr,k1,Bb,hx,hrow];refine B5 q ?_;cases y3:(e==0)
 ·simp only[go_sem,y3,bne,Av];exact fin [] _ _
 simp only[go_sem,y3,bne,Ap,Bg (show i<9223372036854775807 by omega)];exact Bi (ih (i+1,s2,_,vA,vS,vT,S2,T2) (by simp only;omega) ⟨h',h3,⟨k2,hn2⟩,by simp only;omega,by simp only;omega⟩) rfl
/-! end of the cases -/
/-! end of the cases -/
def declsL:List Dp:=[⟨1,0,[120],0,0,[]⟩,⟨1,0,[121],0,1,[]⟩,⟨2,0,[118],0,0,[]⟩,⟨1,0,[113],2,0,[]⟩,⟨3,0,[109],0,0,[]⟩,⟨3,0,[110],0,0,[]⟩,⟨4,0,[114],0,0,[]⟩,⟨5,0,[99],0,0,[109]⟩,⟨6,0,[102],0,0,[]⟩]
theorem Aah:Aj (declsL.map Dp.row).flatten=[]:=by kernel_rfl
theorem Ao2:FnO TT PT 50 [] (.sl 0 0 0 9 6 true) [.row (declsL.map Dp.row).flatten 87 0 0]:=by
 have hT:=T50
 obtain⟨F,h1,h2,h3⟩:=Ai2 (σ:=[]) (vs:=[]) (v:=.sl 0 0 0 9 6 true) (σ':=[.row (declsL.map Dp.row).flatten 87 0 0]) hT rfl (by simp only[go_sem];exact⟨rfl,rfl⟩) (by simp[V.refs]) rfl (A2 _) (by
  intro ob hob i hi;simp only[Ey]at hob;subst hob;rw[Ob.refs,Aah]at hi
  cases hi)
 have e:=h1.symm.trans hT;cases e;exact⟨_,hT,rfl,rfl,h3⟩
theorem Afn(σ:St):CallS TT PT 50 [] σ (.sl σ.length 0 0 9 6 true) (σ++[.row (declsL.map Dp.row).flatten 87 0 0]):=by
 have h:=CallS.own (σ:=σ) (args:=[]) (Xd rfl) Ao2
 have e1:own σ [] [.row (declsL.map Dp.row).flatten 87 0 0]=σ++[.row (declsL.map Dp.row).flatten 87 0 0]:=by
  unfold own;rw[Xa rfl];simp only[St.freeze,Ba,Bs,Ob.ren];rw[O6 _ _ (by rw[Aah];simp)]
 have e2:(V.sl 0 0 0 9 6 true).ren (·+σ.length)=.sl σ.length 0 0 9 6 true:=by simp[V.ren]
 rw[e1,e2]at h;exact h
def MD(n:Nat)(D:List Dp):Prop:=(∀ d∈D,ShD d/\d.nm.length<=12/\d.on.length<=12)/\D.length<=n
theorem Ao3:MD 9 declsL:=by
 refine⟨fun d hd=>?_,by decide⟩;simp only[declsL,Be,Oy,or_false]at hd
 rcases hd with rfl | rfl | rfl | rfl | rfl | rfl | rfl | rfl | rfl<;>exact⟨⟨by decide,by decide,by decide,by decide,by decide⟩,by decide,by decide⟩
theorem Gd{a b:AC}{k:List It}{e:Env}{σ:St}{Q:Env->St->Prop}(P:Env->St->Prop)(h1:∀ k',(∀ e σ,P e σ->W TT PT k' e σ Q)->W TT PT (.c a::k') e σ Q)(h2:∀ e σ,P e σ->W TT PT (.c b::k) e σ Q):W TT PT (.c (.seq a b)::k) e σ Q:=by
 rw[Ac6];exact h1 _ h2
def MT(t:Tp):Prop:=Ip t.nm/\((∀ s∈t.locals,Ip s)/\t.locals.length<=5)/\∃ k,k<=7/\(∀ s∈t.body,SB k s)/\t.body.length<=40
theorem Ab1{α:Type}{f:α->List UInt8}{M:Nat}:∀ {l:List α},(∀ x∈l,(f x).length<=M)->((l.map f).flatten).length<=l.length*M
 | [],_=>by simp
 | x::l,h=>by
  have h1:=h x Ec;have h2:=Ab1 (l:=l) fun y hy=>h y (Dz _ hy)
  rw[Ba,E9,Ao,Am,D9];omega
theorem Ah4:∀ {l:List (List UInt8)},(∀ s∈l,s.length<=4)->(D8 l).length<=l.length*6
 | [],_=>by simp[D8]
 | a::l,h=>by
  have h1:=h a Ec;have h2:=Ah4 (l:=l) fun y hy=>h y (Dz _ hy)
  have h3:=Agj a l;rw[Am,D9];omega
theorem zb7:∀ {k:Nat},k<=7->ZB k<=21845:=by
 intro k hk;have:k=0\/k=1\/k=2\/k=3\/k=4\/k=5\/k=6\/k=7:=by omega
 rcases this with rfl | rfl | rfl | rfl | rfl | rfl | rfl | rfl<;>decide
theorem Akr{t:Tp}(h:MT t):(E7 t).length<=900000000/\Sp.szs t.body<=1000000:=by
 obtain⟨h1,⟨h2,h3⟩,k,hk,h4,h5⟩:=h;have z:=zb7 hk;have a1:=Yg (d:=1) h4 (by omega);have a2:=U1 h4;have a3:=Ah4 fun s hs=>(h2 s hs).2
 have a4:t.body.length*ZB k<=40*21845:=Nat.mul_le_mul h5 z;have a5:t.body.length*(1000*ZB k)<=40*(1000*21845):=Nat.mul_le_mul h5 (by omega);have a6:=h1.2;refine⟨?_,by omega⟩;unfold E7;simp only[Ao,Am,Cx];omega
theorem A1u{D:List Dp}{L:List Tp}(hD:MD 16 D)(hL:∀ t∈L,MT t)(h5:L.length<=5)(h0:L≠[]):ShG ⟨true,0,D,true,0,L⟩/\(Js ⟨true,0,D,true,0,L⟩).length<=10000000000/\∀ t∈L,Sp.szs t.body<=1000000:=by
 refine⟨⟨fun d hd=>(hD.1 d hd).1,fun t ht=>(hL t ht).1.1,fun t ht s hs=>((hL t ht).2.1.1 s hs).1,fun t ht s hs=>?_,h0⟩,?_,fun t ht=>(Akr (hL t ht)).2⟩
 ·obtain⟨-,-,k,-,h4,-⟩:=hL t ht;exact(h4 s hs).1
 ·have a1:=Ab1 (f:=fun d:Dp=>Eh d++[59,10]) (M:=82) (l:=D) fun d hd=>by
   have:=Ama (hD.1 d hd).2.1 (hD.1 d hd).2.2;simp only[Ao,Am,Cx];omega
  have a2:=Ab1 (f:=E7) (M:=900000000) (l:=L) fun t ht=>(Akr (hL t ht)).1
  have a3:=hD.2;unfold Js;rw[Ao];simp only;omega
theorem Au3{ls:List (List UInt8)}(h:(ls.all fun x=>Bv x&&decide (x.length<=4))=true):∀ s∈ls,Ip s:=fun s hs=>by
 have:=Bd.1 h s hs;simp only[Af,decide_eq_true_eq]at this;exact this
