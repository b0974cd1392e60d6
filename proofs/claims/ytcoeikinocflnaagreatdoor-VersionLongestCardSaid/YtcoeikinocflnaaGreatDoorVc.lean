/- Walks: which sites of two programs correspond, both sides. -/
import Derived.Test.YtcoeikinocflnaaGreatDoorVb
import Derived.Test.YtcoeikinocflnaaGreatDoorUc
import Derived.Test.YtcoeikinocflnaaGreatDoorUp
set_option linter.all false
namespace Go.Proofs.YtcoeikinocflnaaGreatDoor.KM
open Go
theorem Au7{keep:List Nat}{c:AC}{id:Nat}{k:List It}{e:Env}{σ:St}{Q:Env->St->Prop}(P:Env->St->Prop)(h1:∀ k',(∀ e σ,P e σ->W TT PT k' e σ Q)->W TT PT (.l keep c::.b id::k') e σ Q)(h2:∀ e σ,P e σ->W TT PT k e σ Q):W TT PT (.l keep c::.b id::k) e σ Q:=h1 k h2
structure PY (p:Gp):Prop where
 px:PX p
 sz:∀ t∈p.thrs,Sp.szs t.body<=4096
theorem Q2{p:Gp}(h:PX p):(Fe (Gc p)).length<=1000000000000:=by
 have h1:(Fe (Gc p)).length=(Uz p).length:=S1 p.thrs
 have h2:(Uz p).length=_:=Aol p.thrs
 have h3:=Auy h.sz
 have h4:p.thrs.length*10000<=100000000*10000:=Ir _ h.few
 omega
theorem Af6{α β:Type}[DecidableEq α][DecidableEq β](P Q:List (β × List α))(i:Nat):(Ey (P.take i) Q).length<=(Fe P).length:=by
 rw[Zo]
 exact Tf P i
theorem Wj{p:Gp}{i:Nat}{x:Tp}(h:p.thrs[i]?=some x):(Gc p)[i]?=some (x.nm,Sp.hdss x.body):=by
 unfold Gc
 rw[A7,h]
 rfl
theorem V9(p:Gp):(Gc p).length=p.thrs.length:=by unfold Gc;rw[Bg]
theorem Ajh{α:Type}[DecidableEq α]{X Y:List α}{m:Nat}{v:Int}(h:(Bx 0 X Y)[m]?=some v): -1<=v/\v<Y.length:=by
 rcases Aap X 0 Y m v h with rfl | ⟨k,rfl,h1,-⟩
 ·omega
 ·omega
theorem Af7{b:Nat}{A:List Int}{m:Nat}{v:Int}(h:A[m]?=some v):Ga b (A.take (m+1))=Ga b (A.take m)++[if 0<=v then v+b else v]:=by
 unfold Ga
 rw[Ok,h,Yw,Hj,Vn]
theorem Aow(a b:List Int):C3 (a++b)=C3 a++C3 b:=by unfold C3;rw[Hj]
structure MQ (p q:Gp) (s:St) (u:V) (L:List Int):Prop where
 gw:GW s 1 3 2 u (C3 L)
 s0:s[0]?=some (.row [SL p.dz p.dt (p.decls.map Dp.row),SL p.tz p.tt (p.thrs.map Tp.row)] 27 0 0)
 s1:s[1]?=some (.row [SL q.dz q.dt (q.decls.map Dp.row),SL q.tz q.tt (q.thrs.map Tp.row)] 27 0 0)
theorem Ab0{p q:Gp}{s:St}{u:V}{L:List Int}(h:MQ p q s u L):2<=s.length:=(Au.1 h.s1).1
theorem Abh{p q:Gp}{s:St}{u:V}{L:List Int}(h:MQ p q s u L)(l:St):MQ p q (s++l) u L:=⟨O2 h.gw,Dn h.s0,Dn h.s1⟩
theorem Ab1{p q:Gp}{s:St}{u:V}{L:List Int}(h:MQ p q s u L)(v:Int)(hb:L.length<=2000000000000):∃ u' s',Fm 8 (1,3) u (.lst 1 [[.int .i64 v]]) s=some (u',s')/\MQ p q s' u' (L++[v])/\u'.cellB=true:=by
 have hl:=Ab0 h
 obtain⟨u',s',ha,g',l',kp,-,-⟩:=Xg (bytes:=8) (y:=.lst 1 [[.int .i64 v]]) (ys:=[[.int .i64 v]]) h.gw (by omega) rfl (by omega) (Abg _) (by simp) (by simp[V.rowB]) (by rw[Qq];simp only[Mi];omega)
 refine⟨u',s',ha,⟨?_,?_,?_⟩,Ep g'⟩
 ·rw[Aow];exact g'
 ·rw[kp 0 (by omega) fun e=>by have:=(Nc h.gw 0 e).1;omega];exact h.s0
 ·rw[kp 1 (by omega) fun e=>by have:=(Nc h.gw 1 e).1;omega];exact h.s1
theorem Akg{p q:Gp}{s:St}{u:V}{L:List Int}(h:MQ p q s u L):FR u s (SL true 0 (C3 L)):=Akp h.gw (by omega) (Abg L) (Ajg L)
set_option maxHeartbeats 4000000 in
theorem Aab{p q:Gp}(hp:PY p)(hq:PY q):Fn TT PT 27 [.agg p.row,.agg q.row] (SL true 0 (C3 (H2 p q))):=by
 have ll:=Q2 hp.px
 have lq:=Q2 hq.px
 have hfp:=hp.px.few
 have hfq:=hq.px.few
 have hLp:=Af3 hp.px
 have hLq:=Af3 hq.px
 have hps:=Nu p
 have hqs:=Nu q
 have hpr:=G7 p
 have hqr:=G7 q
 have hlp:(p.thrs.map B7).length=p.thrs.length:=Bg ..
 have hlq:(q.thrs.map Tp.row).length=q.thrs.length:=Bg ..
 rw[hpr]at hLp hps ⊢
 rw[hqr]at hLq hqs ⊢
 refine Ch T27 rfl ?_
 have m0:MQ p q [.row [SL p.dz p.dt (p.decls.map Dp.row),SL p.tz p.tt (p.thrs.map Tp.row)] 27 0 0,.row [SL q.dz q.dt (q.decls.map Dp.row),SL q.tz q.tt (q.thrs.map Tp.row)] 27 0 0] .nils []:=⟨Fy,rfl,rfl⟩
 simp only[go_sem]
 refine Ax (by kernel_rfl) ?_
 simp only[go_sem]
 refine Cm hLp (by simp only[go_sem]) ?_
 simp only[go_sem]
 refine Cm hLq (by simp only[go_sem]) ?_
 simp only[go_sem,hlp]
 unfold H2
 generalize hP:Gc p=P at *
 generalize hQ:Gc q=Q at *
 refine Cr (α:=Nat × St × V) (fun a=>p.thrs.length - a.1) (fun a=>[(2,.ptr 0 0 0),(3,.ptr 1 0 0),(6,.lst 0 (q.thrs.map B7)),(7,a.2.2),(20,.lst 0 (p.thrs.map B7)),(21,.int .i64 (p.thrs.length:Int)),(22,.int .i64 (a.1:Int))]) (fun a=>a.2.1) (fun a=>a.1<=p.thrs.length/\MQ p q a.2.1 a.2.2 (Ey (P.take a.1) Q)) ?_ (0,_,.nils) ⟨A5 _,m0⟩
 clear m0
 rintro⟨i,s,u⟩ ⟨hi,hm⟩ ih
 simp only at hi hm ih
 refine Ct (by delta lp27_2;exact rfl) ?_
 rcases B3 i p.thrs.length with hi' | hi'
 rotate_left
 ·have hi2:i=p.thrs.length:=by omega
  have hPl:P.length=p.thrs.length:=by rw[<-hP,V9]
  rw[hi2,<-hPl,C6]at hm
  simp only[go_sem,D5 hi']
  exact Akg hm
 obtain⟨x,hx,-,hxm⟩:=Eu hi'
 have hxr:=Pm x
 have hPx:P[i]?=some (x.nm,Sp.hdss x.body):=by rw[<-hP];exact Wj hx
 have hXl:((Sp.hdss x.body).map fun x=>[V.str x]).length=(Sp.hdss x.body).length:=Bg ..
 have hxz:(Sp.hdss x.body).length<=4096:=by rw[Hm];exact hp.sz x hxm
 have hlr:B7 x=[SL true 0 ((Sp.hdss x.body).map fun x=>[V.str x])]:=rfl
 have htk:=Aef Q hPx
 generalize hX:Sp.hdss x.body=X at *
 have i1:IntKind.i64.wrap ((i:Int)+1)=((i+1:Nat):Int):=Bq (by omega)
 have hcell:=Ep hm.gw
 have hms0:=hm.s0
 have hms1:=hm.s1
 simp only[go_sem,Cb hi',A7,hx,hlr,hms1,hlq]
 refine Au7 (fun e s'=>∃ (k:Nat) (v:V) (b:Nat) (Y:List (List UInt8)),e=[(2,.ptr 0 0 0),(3,.ptr 1 0 0),(6,.lst 0 (q.thrs.map B7)),(7,u),(8,.int .i64 (i:Int)),(9,SL true 0 (X.map fun x=>[V.str x])),(10,.int .i64 (b:Int)),(11,v),(20,.lst 0 (p.thrs.map B7)),(21,.int .i64 (p.thrs.length:Int)),(22,.int .i64 (i:Int)),(28,SL q.tz q.tt (q.thrs.map Tp.row)),(29,.int .i64 (q.thrs.length:Int)),(30,.int .i64 (k:Int))]/\v=SL true 0 (Y.map fun x=>[V.str x])/\Y.length<=4096/\b<=(Fe Q).length/\Hu (x.nm,X) Q=Ga b (Bx 0 X Y)/\MQ p q s' u (Ey (P.take i) Q)) ?_ ?_
 ·intro k' hk'
  refine Cr (α:=Nat × St) (fun a=>q.thrs.length - a.1) (fun a=>[(2,.ptr 0 0 0),(3,.ptr 1 0 0),(6,.lst 0 (q.thrs.map B7)),(7,u),(8,.int .i64 (i:Int)),(9,SL true 0 (X.map fun x=>[V.str x])),(10,.int .i64 ((D7 Q a.1:Nat):Int)),(11,.nils),(20,.lst 0 (p.thrs.map B7)),(21,.int .i64 (p.thrs.length:Int)),(22,.int .i64 (i:Int)),(28,SL q.tz q.tt (q.thrs.map Tp.row)),(29,.int .i64 (q.thrs.length:Int)),(30,.int .i64 (a.1:Int))]) (fun a=>a.2) (fun a=>a.1<=q.thrs.length/\Jf x.nm Q a.1/\MQ p q a.2 u (Ey (P.take i) Q)) ?_ (0,s) ⟨A5 _,Ahq _ _,hm⟩
  clear hm hms0 hms1
  clear s
  rintro⟨k,s⟩ ⟨hk,hno,hm⟩ kh
  simp only at hk hno hm kh
  refine Ct (by delta lp27_0;exact rfl) ?_
  rcases B3 k q.thrs.length with h' | h'
  rotate_left
  ·have hk2:k=Q.length:=by rw[<-hQ,V9];omega
   rw[hk2]at hno
   have:=(Af0 (s:=X) hno).2
   simp only[go_sem,D5 h']
   exact hk' _ _ ⟨k,.nils,D7 Q k,[],rfl,by simp[SL],by simp,Tf Q k,by rw[hk2];exact this,hm⟩
  obtain⟨y,hy,-,hym⟩:=Eu h'
  have hyr:=Pm y
  have hQy:Q[k]?=some (y.nm,Sp.hdss y.body):=by rw[<-hQ];exact Wj hy
  have hYl:((Sp.hdss y.body).map fun x=>[V.str x]).length=(Sp.hdss y.body).length:=Bg ..
  have hyz:(Sp.hdss y.body).length<=4096:=by rw[Hm];exact hq.sz y hym
  have hlry:B7 y=[SL true 0 ((Sp.hdss y.body).map fun x=>[V.str x])]:=rfl
  have hls:=Zr hQy
  have hle:=Tf Q k
  simp only at hls
  generalize hY:Sp.hdss y.body=Y at *
  have hlen:=Ab0 hm
  have k1:IntKind.i64.wrap ((k:Int)+1)=((k+1:Nat):Int):=Bq (by omega)
  have w1:IntKind.i64.wrap (((D7 Q k:Nat):Int)+(Y.length:Int))=((D7 Q (k+1):Nat):Int):=by rw[hls,Ed (by omega)];rfl
  have hm':=Abh hm [.row [.str y.nm,.int .i64 y.line,SL y.lz y.lt (y.locals.map fun s=>[V.str s]),SL y.bz y.bt (y.body.map Sp.row)] 91 0 0]
  obtain⟨s',e'⟩:∃ s':St,s'=s++[.row [.str y.nm,.int .i64 y.line,SL y.lz y.lt (y.locals.map fun s=>[V.str s]),SL y.bz y.bt (y.body.map Sp.row)] 91 0 0]:=⟨_,rfl⟩
  have k13:s'[s.length]?=some (.row [.str y.nm,.int .i64 y.line,SL y.lz y.lt (y.locals.map fun s=>[V.str s]),SL y.bz y.bt (y.body.map Sp.row)] 91 0 0):=by rw[e'];simp
  rw[<-e']at hm'
  have hs0:=hm'.s0
  by_cases e:y.nm=x.nm
  ·have f1:(y.nm==x.nm)=true:=by simp[e]
   simp only[go_sem,Cb h',A7,hy,hyr]
   rw[<-e']
   refine Ax (by kernel_rfl) ?_
   simp only[go_sem,k13,hs0,A7,hx,hxr]
   simp only[go_sem,f1,A7,hy,hlry]
   exact hk' _ _ ⟨k,_,D7 Q k,Y,rfl,rfl,hyz,hle,Ahs hno hQy e,hm'⟩
  ·have f1:(y.nm==x.nm)=false:=by simp[e]
   simp only[go_sem,Cb h',A7,hy,hyr]
   rw[<-e']
   refine Ax (by kernel_rfl) ?_
   simp only[go_sem,k13,hs0,A7,hx,hxr]
   simp only[go_sem,f1,A7,hy,hlry,hYl,w1,k1]
   exact Bd (kh (k+1,s') (by simp only;omega) ⟨h',Ahr hno hQy e,hm'⟩) rfl
 clear hm hms0 hms1
 clear s
 rintro _ s ⟨k,v,b,Y,rfl,rfl,hYl,hb,hone,hm⟩
 have qa:=Ari true true 0 0 X Y hxz hYl
 have hAl:(Bx 0 X Y).length=X.length:=T4 X 0 Y
 generalize hA:Bx 0 X Y=A at *
 have hAr:(C3 A).length=X.length:=by rw[Qq,hAl]
 simp only[go_sem]
 refine An qa (by simp only[go_sem]) ?_
 simp only[go_sem,hAr]
 refine Cr (α:=Nat × St × V) (fun a=>X.length - a.1) (fun a=>[(2,.ptr 0 0 0),(3,.ptr 1 0 0),(6,.lst 0 (q.thrs.map B7)),(7,a.2.2),(10,.int .i64 (b:Int)),(20,.lst 0 (p.thrs.map B7)),(21,.int .i64 (p.thrs.length:Int)),(22,.int .i64 (i:Int)),(58,.lst 0 (C3 A)),(59,.int .i64 (X.length:Int)),(60,.int .i64 (a.1:Int))]) (fun a=>a.2.1) (fun a=>a.1<=X.length/\MQ p q a.2.1 a.2.2 (Ey (P.take i) Q++Ga b (A.take a.1))) ?_ (0,s,u) ⟨A5 _,by simpa[Ga] using hm⟩
 clear hm hcell
 clear s u
 rintro⟨m,s,u⟩ ⟨hmx,hm⟩ mh
 simp only at hmx hm mh
 refine Ct (by delta lp27_1;exact rfl) ?_
 rcases B3 m X.length with h' | h'
 rotate_left
 ·have hm2:m=A.length:=by omega
  rw[hm2,C6,<-hone,<-htk]at hm
  simp only[go_sem,D5 h',i1]
  exact Bd (ih (i+1,s,u) (by simp only;omega) ⟨hi',hm⟩) rfl
 obtain⟨v,hv⟩:∃ v,A[m]?=some v:=⟨_,Aw (by omega)⟩
 have hvr:=Ajh (X:=X) (Y:=Y) (m:=m) (by rw[hA];exact hv)
 have hvi:(C3 A)[m]?=some [.int .i64 v]:=by unfold C3;rw[A7,hv];rfl
 have hsh:=Af7 (b:=b) hv
 have m1:IntKind.i64.wrap ((m:Int)+1)=((m+1:Nat):Int):=Bq (by omega)
 have hlt:=Af6 P Q i
 obtain⟨w,hw⟩:∃ w:Int,w=if 0<=v then v+b else v:=⟨_,rfl⟩
 obtain⟨u',s',ha,hm',hc'⟩:=Ab1 hm w (by rw[Aj];unfold Ga;rw[Bg,Gm];omega)
 rw[Bz,hw,<-hsh]at hm'
 by_cases h0:0<=v
 ·have f1:decide (0<=v)=true:=by simp[h0]
  have f2:IntKind.i64.wrap (v+(b:Int))=w:=by rw[hw,if_pos h0,Ed (by omega)]
  simp only[go_sem,Cb h',hvi,f1,f2,ha,m1]
  exact Bd (mh (m+1,s',u') (by simp only;omega) ⟨h',hm'⟩) rfl
 ·have f1:decide (0<=v)=false:=by simp[h0]
  have f2:w=v:=by rw[hw,if_neg h0]
  rw[f2]at ha
  simp only[go_sem,Cb h',hvi,f1,ha,m1]
  exact Bd (mh (m+1,s',u') (by simp only;omega) ⟨h',hm'⟩) rfl
theorem Aox{q:Gp}{j:Nat}{r:List UInt8 × List (List UInt8)}(h:(Gc q)[j]?=some r):∃ y,q.thrs[j]?=some y/\r=(y.nm,Sp.hdss y.body):=by
 unfold Gc at h
 rw[A7]at h
 obtain⟨y,hy,rfl⟩:=A0.1 h
 exact⟨y,hy,rfl⟩
set_option maxHeartbeats 8000000 in
theorem Aoy{p q:Gp}(hp:PY p)(hq:PY q):Fn TT PT 28 [.agg p.row,.agg q.row] (SL true 0 (C3 (H2 p q))):=by
 have ll:=Q2 hp.px
 have lq:=Q2 hq.px
 have hfp:=hp.px.few
 have hfq:=hq.px.few
 obtain⟨zp,hLp⟩:=Af2 hp.px
 obtain⟨zq,hLq⟩:=Af2 hq.px
 have hps:=Nu p
 have hqs:=Nu q
 have hpr:=G7 p
 have hqr:=G7 q
 have hlp:(p.thrs.map Tp.row).length=p.thrs.length:=Bg ..
 have hlq:(q.thrs.map Tp.row).length=q.thrs.length:=Bg ..
 rw[hpr]at hLp hps ⊢
 rw[hqr]at hLq hqs ⊢
 refine Ch T28 rfl ?_
 have m0:MQ p q [.row [SL p.dz p.dt (p.decls.map Dp.row),SL p.tz p.tt (p.thrs.map Tp.row)] 27 0 0,.row [SL q.dz q.dt (q.decls.map Dp.row),SL q.tz q.tt (q.thrs.map Tp.row)] 27 0 0] .nils []:=⟨Fy,rfl,rfl⟩
 simp only[go_sem]
 refine Ax (by kernel_rfl) ?_
 simp only[go_sem]
 refine Cm hLp (by simp only[go_sem]) ?_
 simp only[go_sem]
 refine Cm hLq (by simp only[go_sem]) ?_
 simp only[go_sem,hlp]
 unfold H2
 generalize hP:Gc p=P at *
 generalize hQ:Gc q=Q at *
 refine Cr (α:=Nat × St × V) (fun a=>p.thrs.length - a.1) (fun a=>[(3,.ptr 1 0 0),(5,SL zp 0 (p.thrs.map B7)),(6,SL zq 0 (q.thrs.map B7)),(7,a.2.2),(21,SL p.tz p.tt (p.thrs.map Tp.row)),(22,.int .i64 (p.thrs.length:Int)),(23,.int .i64 (a.1:Int))]) (fun a=>a.2.1) (fun a=>a.1<=p.thrs.length/\MQ p q a.2.1 a.2.2 (Ey (P.take a.1) Q)) ?_ (0,_,.nils) ⟨A5 _,m0⟩
 clear m0
 rintro⟨i,s,u⟩ ⟨hi,hm⟩ ih
 simp only at hi hm ih
 refine Ct (by delta lp28_3;exact rfl) ?_
 rcases B3 i p.thrs.length with hi' | hi'
 rotate_left
 ·have hi2:i=p.thrs.length:=by omega
  have hPl:P.length=p.thrs.length:=by rw[<-hP,V9]
  rw[hi2,<-hPl,C6]at hm
  simp only[go_sem,D5 hi']
  exact Akg hm
 obtain⟨x,hx,-,hxm⟩:=Eu hi'
 have hxr:=Pm x
 have hPx:P[i]?=some (x.nm,Sp.hdss x.body):=by rw[<-hP];exact Wj hx
 have hXl:((Sp.hdss x.body).map fun x=>[V.str x]).length=(Sp.hdss x.body).length:=Bg ..
 have hxz:(Sp.hdss x.body).length<=4096:=by rw[Hm];exact hp.sz x hxm
 have hlr:B7 x=[SL true 0 ((Sp.hdss x.body).map fun x=>[V.str x])]:=rfl
 have htk:=Aef Q hPx
 generalize hX:Sp.hdss x.body=X at *
 have i1:IntKind.i64.wrap ((i:Int)+1)=((i+1:Nat):Int):=Bq (by omega)
 have hlen:=Ab0 hm
 have hm':=Abh hm [.row [.str x.nm,.int .i64 x.line,SL x.lz x.lt (x.locals.map fun s=>[V.str s]),SL x.bz x.bt (x.body.map Sp.row)] 91 0 0]
 obtain⟨s',e'⟩:∃ s':St,s'=s++[.row [.str x.nm,.int .i64 x.line,SL x.lz x.lt (x.locals.map fun s=>[V.str s]),SL x.bz x.bt (x.body.map Sp.row)] 91 0 0]:=⟨_,rfl⟩
 have k9:s'[s.length]?=some (.row [.str x.nm,.int .i64 x.line,SL x.lz x.lt (x.locals.map fun s=>[V.str s]),SL x.bz x.bt (x.body.map Sp.row)] 91 0 0):=by rw[e'];simp
 rw[<-e']at hm'
 have hms1:(s++([.row [.str x.nm,.int .i64 x.line,SL x.lz x.lt (x.locals.map fun s=>[V.str s]),SL x.bz x.bt (x.body.map Sp.row)] 91 0 0]:St))[1]?=some (.row [SL q.dz q.dt (q.decls.map Dp.row),SL q.tz q.tt (q.thrs.map Tp.row)] 27 0 0):=by rw[<-e'];exact hm'.s1
 simp only[go_sem,Cb hi',A7,hx,hxr,hms1,hlq]
 rw[<-e']
 clear hms1 hm e'
 generalize s.length=n9 at *
 clear hlen
 clear s
 refine Cr (α:=Nat × St × Int × Nat) (fun a=>q.thrs.length - a.1) (fun a=>[(3,.ptr 1 0 0),(5,SL zp 0 (p.thrs.map B7)),(6,SL zq 0 (q.thrs.map B7)),(7,u),(8,.int .i64 (i:Int)),(9,.ptr n9 0 0),(10,.int .i64 (a.2.2.2:Int)),(11,.int .i64 a.2.2.1),(21,SL p.tz p.tt (p.thrs.map Tp.row)),(22,.int .i64 (p.thrs.length:Int)),(23,.int .i64 (i:Int)),(29,SL q.tz q.tt (q.thrs.map Tp.row)),(30,.int .i64 (q.thrs.length:Int)),(31,.int .i64 (a.1:Int))]) (fun a=>a.2.1) (fun a=>a.1<=q.thrs.length/\FoundR x.nm Q a.1 a.2.2.1 a.2.2.2/\MQ p q a.2.1 u (Ey (P.take i) Q)/\a.2.1[n9]?=some (.row [.str x.nm,.int .i64 x.line,SL x.lz x.lt (x.locals.map fun s=>[V.str s]),SL x.bz x.bt (x.body.map Sp.row)] 91 0 0)) ?_ (0,s',-1,0) ⟨A5 _,Amy _ _,hm',k9⟩
 clear hm' k9
 clear s'
 rintro⟨k,s,f,b⟩ ⟨hk,hf,hm,k9⟩ kh
 simp only at hk hf hm k9 kh
 refine Ct (by delta lp28_0;exact rfl) ?_
 rcases B3 k q.thrs.length with h' | h'
 ·obtain⟨y,hy,-,hym⟩:=Eu h'
  have hyr:=Pm y
  have hQy:Q[k]?=some (y.nm,Sp.hdss y.body):=by rw[<-hQ];exact Wj hy
  have hYl:((Sp.hdss y.body).map fun x=>[V.str x]).length=(Sp.hdss y.body).length:=Bg ..
  have hyz:(Sp.hdss y.body).length<=4096:=by rw[Hm];exact hq.sz y hym
  have hlry:B7 y=[SL true 0 ((Sp.hdss y.body).map fun x=>[V.str x])]:=rfl
  have hle:=Tf Q k
  generalize hY:Sp.hdss y.body=Y at *
  have k1:IntKind.i64.wrap ((k:Int)+1)=((k+1:Nat):Int):=Bq (by omega)
  have hm':=Abh hm [.row [.str y.nm,.int .i64 y.line,SL y.lz y.lt (y.locals.map fun s=>[V.str s]),SL y.bz y.bt (y.body.map Sp.row)] 91 0 0]
  obtain⟨s',e'⟩:∃ s':St,s'=s++[.row [.str y.nm,.int .i64 y.line,SL y.lz y.lt (y.locals.map fun s=>[V.str s]),SL y.bz y.bt (y.body.map Sp.row)] 91 0 0]:=⟨_,rfl⟩
  have k13:(s++([.row [.str y.nm,.int .i64 y.line,SL y.lz y.lt (y.locals.map fun s=>[V.str s]),SL y.bz y.bt (y.body.map Sp.row)] 91 0 0]:St))[s.length]?=some (.row [.str y.nm,.int .i64 y.line,SL y.lz y.lt (y.locals.map fun s=>[V.str s]),SL y.bz y.bt (y.body.map Sp.row)] 91 0 0):=by simp
  have k9':(s++([.row [.str y.nm,.int .i64 y.line,SL y.lz y.lt (y.locals.map fun s=>[V.str s]),SL y.bz y.bt (y.body.map Sp.row)] 91 0 0]:St))[n9]?=some (.row [.str x.nm,.int .i64 x.line,SL x.lz x.lt (x.locals.map fun s=>[V.str s]),SL x.bz x.bt (x.body.map Sp.row)] 91 0 0):=Dn k9
  cases hf with
  | no hno=>
   have hls:=Zr hQy
   simp only at hls
   have w1:IntKind.i64.wrap (((D7 Q k:Nat):Int)+(Y.length:Int))=((D7 Q (k+1):Nat):Int):=by rw[hls,Ed (by omega)];rfl
   by_cases e:y.nm=x.nm
   ·have f1:(x.nm==y.nm)=true:=by simp[e]
    have f2:((k:Int)<0)=False:=eq_false (by omega)
    simp only[go_sem,Cb h',A7,hy,hyr,k13,k9',f1,f2,k1]
    exact Bd (kh (k+1,_,(k:Int),D7 Q k) (by simp only;omega) ⟨h',Aoj hno hQy e,hm',k9'⟩) rfl
   ·have f1:(x.nm==y.nm)=false:=by simp;exact fun h=>e h.symm
    simp only[go_sem,Cb h',A7,hy,hyr,k13,k9',f1,hlry,hYl,w1,k1]
    exact Bd (kh (k+1,_,-1,D7 Q (k+1)) (by simp only;omega) ⟨h',by rw[hls];exact Am0 hno hQy e,hm',k9'⟩) rfl
  | @yes j r hjk hno hr hrn=>
   have f2:((j:Int)<0)=False:=eq_false (by omega)
   have hF:=Amz (.yes hjk hno hr hrn)
   by_cases e:y.nm=x.nm
   ·have f1:(x.nm==y.nm)=true:=by simp[e]
    simp only[go_sem,Cb h',A7,hy,hyr,k13,k9',f1,f2,k1]
    exact Bd (kh (k+1,_,(j:Int),D7 Q j) (by simp only;omega) ⟨h',hF,hm',k9'⟩) rfl
   ·have f1:(x.nm==y.nm)=false:=by simp;exact fun h=>e h.symm
    simp only[go_sem,Cb h',A7,hy,hyr,k13,k9',f1,f2,k1]
    exact Bd (kh (k+1,_,(j:Int),D7 Q j) (by simp only;omega) ⟨h',hF,hm',k9'⟩) rfl
 have hk2:k=Q.length:=by rw[<-hQ,V9];omega
 have hlt:=Af6 P Q i
 clear kh k9
 cases hf with
 | no hno=>
  rw[hk2]at hno
  have hone:=(Af0 (s:=X) hno).1
  simp only[go_sem,D5 h',A7,hx,hlr,hXl]
  refine Cr (α:=Nat × St × V) (fun a=>X.length - a.1) (fun a=>[(3,.ptr 1 0 0),(5,SL zp 0 (p.thrs.map B7)),(6,SL zq 0 (q.thrs.map B7)),(7,a.2.2),(21,SL p.tz p.tt (p.thrs.map Tp.row)),(22,.int .i64 (p.thrs.length:Int)),(23,.int .i64 (i:Int)),(62,.int .i64 (X.length:Int)),(63,.int .i64 (a.1:Int))]) (fun a=>a.2.1) (fun a=>a.1<=X.length/\MQ p q a.2.1 a.2.2 (Ey (P.take i) Q++List.replicate a.1 (-1))) ?_ (0,s,u) ⟨A5 _,by simpa using hm⟩
  clear hm
  clear s u
  rintro⟨m,s,u⟩ ⟨hmx,hm⟩ mh
  simp only at hmx hm mh
  refine Ct (by delta lp28_1;exact rfl) ?_
  rcases B3 m X.length with h2 | h2
  ·obtain⟨u',s',ha,hm',hc'⟩:=Ab1 hm (-1) (by rw[Aj,Oi];omega)
   rw[Bz,<-List.replicate_succ']at hm'
   have m1:IntKind.i64.wrap ((m:Int)+1)=((m+1:Nat):Int):=Bq (by omega)
   simp only[go_sem,Cb h2,ha,m1]
   exact Bd (mh (m+1,s',u') (by simp only;omega) ⟨h2,hm'⟩) rfl
  ·have hm2:m=X.length:=by omega
   rw[hm2,<-hone,<-htk]at hm
   simp only[go_sem,D5 h2,i1]
   exact Bd (ih (i+1,s,u) (by simp only;omega) ⟨hi',hm⟩) rfl
 | @yes j r hjk hno hr hrn=>
  have hr':=hr
  rw[<-hQ]at hr'
  obtain⟨y,hy,rfl⟩:=Aox hr'
  have hym:=Ji hy
  have hyz:(Sp.hdss y.body).length<=4096:=by rw[Hm];exact hq.sz y hym
  have hlry:B7 y=[SL true 0 ((Sp.hdss y.body).map fun x=>[V.str x])]:=rfl
  have hone:=Ahs (s:=X) hno hr hrn
  have hb:=Tf Q j
  simp only at hone
  generalize hY:Sp.hdss y.body=Y at *
  generalize D7 Q j=b at *
  have qa:=Au6 true true 0 0 X Y hxz hyz
  have hAl:(Bx 0 X Y).length=X.length:=T4 X 0 Y
  generalize hA:Bx 0 X Y=A at *
  have hAr:(C3 A).length=X.length:=by rw[Qq,hAl]
  have f2:((j:Int)<0)=False:=eq_false (by omega)
  simp only[go_sem,D5 h',f2]
  refine Ax (by kernel_rfl) ?_
  simp only[go_sem,A7,hx,hlr,hy,hlry]
  refine Cm qa (by simp only[go_sem]) ?_
  simp only[go_sem,hAr]
  refine Cr (α:=Nat × St × V) (fun a=>X.length - a.1) (fun a=>[(3,.ptr 1 0 0),(5,SL zp 0 (p.thrs.map B7)),(6,SL zq 0 (q.thrs.map B7)),(7,a.2.2),(10,.int .i64 (b:Int)),(21,SL p.tz p.tt (p.thrs.map Tp.row)),(22,.int .i64 (p.thrs.length:Int)),(23,.int .i64 (i:Int)),(77,.lst 0 (C3 A)),(78,.int .i64 (X.length:Int)),(79,.int .i64 (a.1:Int))]) (fun a=>a.2.1) (fun a=>a.1<=X.length/\MQ p q a.2.1 a.2.2 (Ey (P.take i) Q++Ga b (A.take a.1))) ?_ (0,s,u) ⟨A5 _,by simpa[Ga] using hm⟩
  clear hm
  clear s u
  rintro⟨m,s,u⟩ ⟨hmx,hm⟩ mh
  simp only at hmx hm mh
  refine Ct (by delta lp28_2;exact rfl) ?_
  rcases B3 m X.length with h2 | h2
  rotate_left
  ·have hm2:m=A.length:=by omega
   rw[hm2,C6,<-hone,<-htk]at hm
   simp only[go_sem,D5 h2,i1]
   exact Bd (ih (i+1,s,u) (by simp only;omega) ⟨hi',hm⟩) rfl
  obtain⟨v,hv⟩:∃ v,A[m]?=some v:=⟨_,Aw (by omega)⟩
  have hvr:=Ajh (X:=X) (Y:=Y) (m:=m) (by rw[hA];exact hv)
  have hvi:(C3 A)[m]?=some [.int .i64 v]:=by unfold C3;rw[A7,hv];rfl
  have hsh:=Af7 (b:=b) hv
  have m1:IntKind.i64.wrap ((m:Int)+1)=((m+1:Nat):Int):=Bq (by omega)
  obtain⟨w,hw⟩:∃ w:Int,w=if 0<=v then v+b else v:=⟨_,rfl⟩
  obtain⟨u',s',ha,hm',hc'⟩:=Ab1 hm w (by rw[Aj];unfold Ga;rw[Bg,Gm];omega)
  rw[Bz,hw,<-hsh]at hm'
  by_cases h0:0<=v
  ·have f1:decide (0<=v)=true:=by simp[h0]
   have f2:IntKind.i64.wrap (v+(b:Int))=w:=by rw[hw,if_pos h0,Ed (by omega)]
   simp only[go_sem,Cb h2,hvi,f1,f2,ha,m1]
   exact Bd (mh (m+1,s',u') (by simp only;omega) ⟨h2,hm'⟩) rfl
  ·have f1:decide (0<=v)=false:=by simp[h0]
   have f2:w=v:=by rw[hw,if_neg h0]
   rw[f2]at ha
   simp only[go_sem,Cb h2,hvi,f1,ha,m1]
   exact Bd (mh (m+1,s',u') (by simp only;omega) ⟨h2,hm'⟩) rfl
end Go.Proofs.YtcoeikinocflnaaGreatDoor.KM
