/- Walks: which sites of two programs correspond, both sides. -/
import Derived.Test.YthlbbjcbmojocacGreatDoorUj
import Derived.Lib.SlicesCompact
set_option linter.all false
namespace Go.Proofs.YthlbbjcbmojocacGreatDoor.KM
open Go
def A9b{keep:List Nat}{c:AC}{id:Nat}{k:List It}{e:Env}{σ:St}{Q:Env->St->Prop}(P:Env->St->Prop)(h1:∀ k',(∀ e σ,P e σ->W TT PT k' e σ Q)->W TT PT (.l keep c::.b id::k') e σ Q)(h2:∀ e σ,P e σ->W TT PT k e σ Q):W TT PT (.l keep c::.b id::k) e σ Q:=h1 k h2
structure PY (p:Gp):Prop where
 px:PX p
 sz:∀ t∈p.thrs,Sp.szs t.body<=4096
def Yq{p:Gp}(h:PX p):(Hq (Hn p)).length<=1000000000000:=by
 have h1:(Hq (Hn p)).length=(Ig p).length:=Ab1 p.thrs;have h2:(Ig p).length=_:=Ahf p.thrs;have h3:=Y7 h.sz;have h4:p.thrs.length*10000<=100000000*10000:=Fp _ h.few;omega
def Aon{α β:Type}[DecidableEq α][DecidableEq β](P Q:List (β × List α))(i:Nat):(H9 (P.take i) Q).length<=(Hq P).length:=by
 rw[Ags];exact Yo P i
def Ab2{p:Gp}{i:Nat}{x:Tp}(h:p.thrs[i]?=some x):(Hn p)[i]?=some (x.nm,Sp.hdss x.body):=by
 unfold Hn;rw[Aj,h];rfl
def Abq(p:Gp):(Hn p).length=p.thrs.length:=by unfold Hn;rw[Ap]
def As5{α:Type}[DecidableEq α]{X Y:List α}{m:Nat}{v:Int}(h:(Dn 0 X Y)[m]?=some v): -1<=v/\v<Y.length:=by
 rcases Ahz X 0 Y m v h with rfl | ⟨k,rfl,h1,-⟩
 .omega
 .omega
def Aoo{b:Nat}{A:List Int}{m:Nat}{v:Int}(h:A[m]?=some v):Jc b (A.take (m+1))=Jc b (A.take m)++[if 0<=v then v+b else v]:=by
 unfold Jc;rw[G7,h,U1,Dw,Aa4]
def Aop(a b:List Int):C3 (a++b)=C3 a++C3 b:=by unfold C3;rw[Dw]
structure MQ (p q:Gp) (s:St) (u:V) (L:List Int):Prop where
 gw:GW s 1 3 2 u (C3 L)
 s0:s[0]?=some (.row [SL p.dz p.dt (p.decls.map Dp.row),SL p.tz p.tt (p.thrs.map Tp.row)] 29 0 0)
 s1:s[1]?=some (.row [SL q.dz q.dt (q.decls.map Dp.row),SL q.tz q.tt (q.thrs.map Tp.row)] 29 0 0)
def Ajs{p q:Gp}{s:St}{u:V}{L:List Int}(h:MQ p q s u L):2<=s.length:=(Ak.1 h.s1).1
def Aiw{p q:Gp}{s:St}{u:V}{L:List Int}(h:MQ p q s u L)(l:St):MQ p q (s++l) u L:=⟨Gk h.gw,Bx h.s0,Bx h.s1⟩
def Ajt{p q:Gp}{s:St}{u:V}{L:List Int}(h:MQ p q s u L)(v:Int)(hb:L.length<=2000000000000):∃ u' s',D6 8 (1,3) u (.lst 1 [[iV v]]) s=some (u',s')/\MQ p q s' u' (L++[v])/\u'.cellB=true:=by
 have hl:=Ajs h;obtain⟨u',s',ha,g',l',kp,-,-⟩:=Pp (bytes:=8) (y:=.lst 1 [[iV v]]) (ys:=[[iV v]]) h.gw AA rfl AA (Add _) AH (by simp[V.rowB]) (by rw[Q0];simp only[Hw];omega);refine⟨u',s',ha,⟨?_,?_,?_⟩,Cu g'⟩
 .rw[Aop];exact g'
 .rw[kp 0 AA fun e=>by have:=(Dx h.gw 0 e).1;omega];exact h.s0
 .rw[kp 1 AA fun e=>by have:=(Dx h.gw 1 e).1;omega];exact h.s1
def Auw{p q:Gp}{s:St}{u:V}{L:List Int}(h:MQ p q s u L):FR u s (SL true 0 (C3 L)):=Ue h.gw AA (Add L) (As4 L)
set_option maxHeartbeats 4000000 in
def Aoq{p q:Gp}(hp:PY p)(hq:PY q):Fn TT PT 19 [.agg p.row,.agg q.row] (SL true 0 (C3 (Jd p q))):=by
 have ll:=Yq hp.px;have lq:=Yq hq.px;have jk:=hp.px.few;have jl:=hq.px.few;have qq:=Ahe hp.px;have qr:=Ahe hq.px;have qR:=Ox p;have qS:=Ox q;have qh:=Fh p;have qz:=Fh q;have qP:(p.thrs.map Cq).length=p.thrs.length:=Ap ..;have qQ:(q.thrs.map Tp.row).length=q.thrs.length:=Ap ..;rw[qh]at qq qR ⊢;rw[qz]at qr qS ⊢;refine Bo T19 rfl ?_;have m0:MQ p q [.row [SL p.dz p.dt (p.decls.map Dp.row),SL p.tz p.tt (p.thrs.map Tp.row)] 29 0 0,.row [SL q.dz q.dt (q.decls.map Dp.row),SL q.tz q.tt (q.thrs.map Tp.row)] 29 0 0] .nils []:=⟨D5,rfl,rfl⟩;simp only[go_sem];refine Ag AE ?_;simp only[go_sem];refine Bk qq AB ?_;simp only[go_sem];refine Bk qr AB ?_;simp only[go_sem,qP];unfold Jd;generalize hP:Hn p=P at *;generalize hQ:Hn q=Q at *;refine Bn (α:=Nat × St × V) (fun a=>p.thrs.length - a.1) (fun a=>[(2,.ptr 0 0 0),(3,.ptr 1 0 0),(6,.lst 0 (q.thrs.map Cq)),(7,a.2.2),(20,.lst 0 (p.thrs.map Cq)),(21,iV (p.thrs.length:Int)),(22,iV (a.1:Int))]) (fun a=>a.2.1) (fun a=>a.1<=p.thrs.length/\MQ p q a.2.1 a.2.2 (H9 (P.take a.1) Q)) ?_ (0,_,.nils) ⟨Au _,m0⟩;clear m0;rintro⟨i,s,u⟩ ⟨hi,hm⟩ ih;simp only at hi hm ih;refine Bl Bgp ?_;rcases Be i p.thrs.length with qg | qg;rotate_left
 .have qN:i=p.thrs.length:=by omega
  have qE:P.length=p.thrs.length:=by rw[<-hP,Abq]
  rw[qN,<-qE,Dc]at hm;simp only[go_sem,Bq qg];exact Auw hm
 obtain⟨x,hx,-,qU⟩:=By qg;have qp:=Ow x;have qM:P[i]?=some (x.nm,Sp.hdss x.body):=by rw[<-hP];exact Ab2 hx
 have qZ:((Sp.hdss x.body).map fun x=>[V.str x]).length=(Sp.hdss x.body).length:=Ap ..;have qV:(Sp.hdss x.body).length<=4096:=by rw[Io];exact hp.sz x qU
 have qH:Cq x=[SL true 0 ((Sp.hdss x.body).map fun x=>[V.str x])]:=rfl;have qk:=Amk Q qM;generalize hX:Sp.hdss x.body=X at *;have i1:IntKind.i64.wrap ((i:Int)+1)=((i+1:Nat):Int):=A2 AA;have qt:=Cu hm.gw;have qx:=hm.s0;have qe:=hm.s1;simp only[go_sem,A0 qg,Aj,hx,qH,qe,qQ];refine A9b (fun e s'=>∃ (k:Nat) (v:V) (b:Nat) (Y:List (List UInt8)),e=[(2,.ptr 0 0 0),(3,.ptr 1 0 0),(6,.lst 0 (q.thrs.map Cq)),(7,u),(8,iV (i:Int)),(9,SL true 0 (X.map fun x=>[V.str x])),(10,iV (b:Int)),(11,v),(20,.lst 0 (p.thrs.map Cq)),(21,iV (p.thrs.length:Int)),(22,iV (i:Int)),(28,SL q.tz q.tt (q.thrs.map Tp.row)),(29,iV (q.thrs.length:Int)),(30,iV (k:Int))]/\v=SL true 0 (Y.map fun x=>[V.str x])/\Y.length<=4096/\b<=(Hq Q).length/\Lh (x.nm,X) Q=Jc b (Dn 0 X Y)/\MQ p q s' u (H9 (P.take i) Q)) ?_ ?_
 .intro k' qu;refine Bn (α:=Nat × St) (fun a=>q.thrs.length - a.1) (fun a=>[(2,.ptr 0 0 0),(3,.ptr 1 0 0),(6,.lst 0 (q.thrs.map Cq)),(7,u),(8,iV (i:Int)),(9,SL true 0 (X.map fun x=>[V.str x])),(10,iV ((F2 Q a.1:Nat):Int)),(11,.nils),(20,.lst 0 (p.thrs.map Cq)),(21,iV (p.thrs.length:Int)),(22,iV (i:Int)),(28,SL q.tz q.tt (q.thrs.map Tp.row)),(29,iV (q.thrs.length:Int)),(30,iV (a.1:Int))]) (fun a=>a.2) (fun a=>a.1<=q.thrs.length/\M9 x.nm Q a.1/\MQ p q a.2 u (H9 (P.take i) Q)) ?_ (0,s) ⟨Au _,Aq4 _ _,hm⟩;clear hm qx qe;clear s;rintro⟨k,s⟩ ⟨hk,qc,hm⟩ kh;simp only at hk qc hm kh;refine Bl Bgn ?_;rcases Be k q.thrs.length with h' | h';rotate_left
  .have qF:k=Q.length:=by rw[<-hQ,Abq];omega
   rw[qF]at qc;have:=(Aok (s:=X) qc).2;simp only[go_sem,Bq h'];exact qu _ _ ⟨k,.nils,F2 Q k,[],rfl,by simp[SL],by simp,Yo Q k,by rw[qF];exact this,hm⟩
  obtain⟨y,hy,-,qB⟩:=By h';have ql:=Ow y;have qj:Q[k]?=some (y.nm,Sp.hdss y.body):=by rw[<-hQ];exact Ab2 hy
  have qs:((Sp.hdss y.body).map fun x=>[V.str x]).length=(Sp.hdss y.body).length:=Ap ..;have qI:(Sp.hdss y.body).length<=4096:=by rw[Io];exact hq.sz y qB
  have qd:Cq y=[SL true 0 ((Sp.hdss y.body).map fun x=>[V.str x])]:=rfl;have qo:=Agu qj;have qG:=Yo Q k;simp only at qo;generalize hY:Sp.hdss y.body=Y at *;have qv:=Ajs hm;have k1:IntKind.i64.wrap ((k:Int)+1)=((k+1:Nat):Int):=A2 AA;have w1:IntKind.i64.wrap (((F2 Q k:Nat):Int)+(Y.length:Int))=((F2 Q (k+1):Nat):Int):=by rw[qo,Ch AA];rfl
  have qb:=Aiw hm [.row [.str y.nm,iV y.line,SL y.lz y.lt (y.locals.map fun s=>[V.str s]),SL y.bz y.bt (y.body.map Sp.row)] 90 0 0];obtain⟨s',e'⟩:∃ s':St,s'=s++[.row [.str y.nm,iV y.line,SL y.lz y.lt (y.locals.map fun s=>[V.str s]),SL y.bz y.bt (y.body.map Sp.row)] 90 0 0]:=⟨_,rfl⟩;have qm:s'[s.length]?=some (.row [.str y.nm,iV y.line,SL y.lz y.lt (y.locals.map fun s=>[V.str s]),SL y.bz y.bt (y.body.map Sp.row)] 90 0 0):=by rw[e'];simp
  rw[<-e']at qb;have jc:=qb.s0;by_cases e:y.nm=x.nm
  .have f1:(y.nm==x.nm)=true:=by simp[e]
   simp only[go_sem,A0 h',Aj,hy,ql];rw[<-e'];refine Ag AE ?_;simp only[go_sem,qm,jc,Aj,hx,qp];simp only[go_sem,f1,Aj,hy,qd];exact qu _ _ ⟨k,_,F2 Q k,Y,rfl,rfl,qI,qG,Aq6 qc qj e,qb⟩
  .have f1:(y.nm==x.nm)=false:=by simp[e]
   simp only[go_sem,A0 h',Aj,hy,ql];rw[<-e'];refine Ag AE ?_;simp only[go_sem,qm,jc,Aj,hx,qp];simp only[go_sem,f1,Aj,hy,qd,qs,w1,k1];exact As (kh (k+1,s') AD ⟨h',Aq5 qc qj e,qb⟩) rfl
 clear hm qx qe;clear s;rintro _ s ⟨k,v,b,Y,rfl,rfl,qs,hb,qf,hm⟩;have qa:=A4o true true 0 0 X Y qV qs;have qK:(Dn 0 X Y).length=X.length:=Y8 X 0 Y;generalize hA:Dn 0 X Y=A at *;have qn:(C3 A).length=X.length:=by rw[Q0,qK]
 simp only[go_sem];refine Ad qa AB ?_;simp only[go_sem,qn];refine Bn (α:=Nat × St × V) (fun a=>X.length - a.1) (fun a=>[(2,.ptr 0 0 0),(3,.ptr 1 0 0),(6,.lst 0 (q.thrs.map Cq)),(7,a.2.2),(10,iV (b:Int)),(20,.lst 0 (p.thrs.map Cq)),(21,iV (p.thrs.length:Int)),(22,iV (i:Int)),(58,.lst 0 (C3 A)),(59,iV (X.length:Int)),(60,iV (a.1:Int))]) (fun a=>a.2.1) (fun a=>a.1<=X.length/\MQ p q a.2.1 a.2.2 (H9 (P.take i) Q++Jc b (A.take a.1))) ?_ (0,s,u) ⟨Au _,by simpa[Jc] using hm⟩;clear hm qt;clear s u;rintro⟨m,s,u⟩ ⟨qy,hm⟩ mh;simp only at qy hm mh;refine Bl Bgo ?_;rcases Be m X.length with h' | h';rotate_left
 .have qw:m=A.length:=by omega
  rw[qw,Dc,<-qf,<-qk]at hm;simp only[go_sem,Bq h',i1];exact As (ih (i+1,s,u) AD ⟨qg,hm⟩) rfl
 obtain⟨v,hv⟩:∃ v,A[m]?=some v:=⟨_,Bc AA⟩;have ju:=As5 (X:=X) (Y:=Y) (m:=m) (by rw[hA];exact hv);have qA:(C3 A)[m]?=some [iV v]:=by unfold C3;rw[Aj,hv];rfl
 have qT:=Aoo (b:=b) hv;have m1:IntKind.i64.wrap ((m:Int)+1)=((m+1:Nat):Int):=A2 AA;have jn:=Aon P Q i
 obtain⟨w,hw⟩:∃ w:Int,w=if 0<=v then v+b else v:=⟨_,rfl⟩
 obtain⟨u',s',ha,qb,ja⟩:=Ajt hm w (by rw[Al];unfold Jc;rw[Ap,Eg];omega);rw[Da,hw,<-qT]at qb;by_cases h0:0<=v
 .have f1:decide (0<=v)=true:=by simp[h0]
  have f2:IntKind.i64.wrap (v+(b:Int))=w:=by rw[hw,if_pos h0,Ch AA]
  simp only[go_sem,A0 h',qA,f1,f2,ha,m1];exact As (mh (m+1,s',u') AD ⟨h',qb⟩) rfl
 .have f1:decide (0<=v)=false:=by simp[h0]
  have f2:w=v:=by rw[hw,if_neg h0]
  rw[f2]at ha;simp only[go_sem,A0 h',qA,f1,ha,m1];exact As (mh (m+1,s',u') AD ⟨h',qb⟩) rfl
def A08{q:Gp}{j:Nat}{r:List UInt8 × List (List UInt8)}(h:(Hn q)[j]?=some r):∃ y,q.thrs[j]?=some y/\r=(y.nm,Sp.hdss y.body):=by
 unfold Hn at h;rw[Aj]at h;obtain⟨y,hy,rfl⟩:=Bu.1 h;exact⟨y,hy,rfl⟩
set_option maxHeartbeats 8000000 in
def A09{p q:Gp}(hp:PY p)(hq:PY q):Fn TT PT 26 [.agg p.row,.agg q.row] (SL true 0 (C3 (Jd p q))):=by
 have ll:=Yq hp.px;have lq:=Yq hq.px;have jk:=hp.px.few;have jl:=hq.px.few;obtain⟨zp,qq⟩:=Ahd hp.px;obtain⟨zq,qr⟩:=Ahd hq.px;have qR:=Ox p;have qS:=Ox q;have qh:=Fh p;have qz:=Fh q;have qP:(p.thrs.map Tp.row).length=p.thrs.length:=Ap ..;have qQ:(q.thrs.map Tp.row).length=q.thrs.length:=Ap ..;rw[qh]at qq qR ⊢;rw[qz]at qr qS ⊢;refine Bo T26 rfl ?_;have m0:MQ p q [.row [SL p.dz p.dt (p.decls.map Dp.row),SL p.tz p.tt (p.thrs.map Tp.row)] 29 0 0,.row [SL q.dz q.dt (q.decls.map Dp.row),SL q.tz q.tt (q.thrs.map Tp.row)] 29 0 0] .nils []:=⟨D5,rfl,rfl⟩;simp only[go_sem];refine Ag AE ?_;simp only[go_sem];refine Bk qq AB ?_;simp only[go_sem];refine Bk qr AB ?_;simp only[go_sem,qP];unfold Jd;generalize hP:Hn p=P at *;generalize hQ:Hn q=Q at *;refine Bn (α:=Nat × St × V) (fun a=>p.thrs.length - a.1) (fun a=>[(3,.ptr 1 0 0),(5,SL zp 0 (p.thrs.map Cq)),(6,SL zq 0 (q.thrs.map Cq)),(7,a.2.2),(21,SL p.tz p.tt (p.thrs.map Tp.row)),(22,iV (p.thrs.length:Int)),(23,iV (a.1:Int))]) (fun a=>a.2.1) (fun a=>a.1<=p.thrs.length/\MQ p q a.2.1 a.2.2 (H9 (P.take a.1) Q)) ?_ (0,_,.nils) ⟨Au _,m0⟩;clear m0;rintro⟨i,s,u⟩ ⟨hi,hm⟩ ih;simp only at hi hm ih;refine Bl Bgy ?_;rcases Be i p.thrs.length with qg | qg;rotate_left
 .have qN:i=p.thrs.length:=by omega
  have qE:P.length=p.thrs.length:=by rw[<-hP,Abq]
  rw[qN,<-qE,Dc]at hm;simp only[go_sem,Bq qg];exact Auw hm
 obtain⟨x,hx,-,qU⟩:=By qg;have qp:=Ow x;have qM:P[i]?=some (x.nm,Sp.hdss x.body):=by rw[<-hP];exact Ab2 hx
 have qZ:((Sp.hdss x.body).map fun x=>[V.str x]).length=(Sp.hdss x.body).length:=Ap ..;have qV:(Sp.hdss x.body).length<=4096:=by rw[Io];exact hp.sz x qU
 have qH:Cq x=[SL true 0 ((Sp.hdss x.body).map fun x=>[V.str x])]:=rfl;have qk:=Amk Q qM;generalize hX:Sp.hdss x.body=X at *;have i1:IntKind.i64.wrap ((i:Int)+1)=((i+1:Nat):Int):=A2 AA;have qv:=Ajs hm;have qb:=Aiw hm [.row [.str x.nm,iV x.line,SL x.lz x.lt (x.locals.map fun s=>[V.str s]),SL x.bz x.bt (x.body.map Sp.row)] 90 0 0];obtain⟨s',e'⟩:∃ s':St,s'=s++[.row [.str x.nm,iV x.line,SL x.lz x.lt (x.locals.map fun s=>[V.str s]),SL x.bz x.bt (x.body.map Sp.row)] 90 0 0]:=⟨_,rfl⟩;have k9:s'[s.length]?=some (.row [.str x.nm,iV x.line,SL x.lz x.lt (x.locals.map fun s=>[V.str s]),SL x.bz x.bt (x.body.map Sp.row)] 90 0 0):=by rw[e'];simp
 rw[<-e']at qb;have qe:(s++([.row [.str x.nm,iV x.line,SL x.lz x.lt (x.locals.map fun s=>[V.str s]),SL x.bz x.bt (x.body.map Sp.row)] 90 0 0]:St))[1]?=some (.row [SL q.dz q.dt (q.decls.map Dp.row),SL q.tz q.tt (q.thrs.map Tp.row)] 29 0 0):=by rw[<-e'];exact qb.s1
 simp only[go_sem,A0 qg,Aj,hx,qp,qe,qQ];rw[<-e'];clear qe hm e';generalize s.length=n9 at *;clear qv;clear s;refine Bn (α:=Nat × St × Int × Nat) (fun a=>q.thrs.length - a.1) (fun a=>[(3,.ptr 1 0 0),(5,SL zp 0 (p.thrs.map Cq)),(6,SL zq 0 (q.thrs.map Cq)),(7,u),(8,iV (i:Int)),(9,.ptr n9 0 0),(10,iV (a.2.2.2:Int)),(11,iV a.2.2.1),(21,SL p.tz p.tt (p.thrs.map Tp.row)),(22,iV (p.thrs.length:Int)),(23,iV (i:Int)),(29,SL q.tz q.tt (q.thrs.map Tp.row)),(30,iV (q.thrs.length:Int)),(31,iV (a.1:Int))]) (fun a=>a.2.1) (fun a=>a.1<=q.thrs.length/\FoundR x.nm Q a.1 a.2.2.1 a.2.2.2/\MQ p q a.2.1 u (H9 (P.take i) Q)/\a.2.1[n9]?=some (.row [.str x.nm,iV x.line,SL x.lz x.lt (x.locals.map fun s=>[V.str s]),SL x.bz x.bt (x.body.map Sp.row)] 90 0 0)) ?_ (0,s',-1,0) ⟨Au _,Ayy _ _,qb,k9⟩;clear qb k9;clear s';rintro⟨k,s,f,b⟩ ⟨hk,hf,hm,k9⟩ kh;simp only at hk hf hm k9 kh;refine Bl Bgv ?_;rcases Be k q.thrs.length with h' | h'
 .obtain⟨y,hy,-,qB⟩:=By h';have ql:=Ow y;have qj:Q[k]?=some (y.nm,Sp.hdss y.body):=by rw[<-hQ];exact Ab2 hy
  have qs:((Sp.hdss y.body).map fun x=>[V.str x]).length=(Sp.hdss y.body).length:=Ap ..;have qI:(Sp.hdss y.body).length<=4096:=by rw[Io];exact hq.sz y qB
  have qd:Cq y=[SL true 0 ((Sp.hdss y.body).map fun x=>[V.str x])]:=rfl;have qG:=Yo Q k;generalize hY:Sp.hdss y.body=Y at *;have k1:IntKind.i64.wrap ((k:Int)+1)=((k+1:Nat):Int):=A2 AA;have qb:=Aiw hm [.row [.str y.nm,iV y.line,SL y.lz y.lt (y.locals.map fun s=>[V.str s]),SL y.bz y.bt (y.body.map Sp.row)] 90 0 0];obtain⟨s',e'⟩:∃ s':St,s'=s++[.row [.str y.nm,iV y.line,SL y.lz y.lt (y.locals.map fun s=>[V.str s]),SL y.bz y.bt (y.body.map Sp.row)] 90 0 0]:=⟨_,rfl⟩;have qm:(s++([.row [.str y.nm,iV y.line,SL y.lz y.lt (y.locals.map fun s=>[V.str s]),SL y.bz y.bt (y.body.map Sp.row)] 90 0 0]:St))[s.length]?=some (.row [.str y.nm,iV y.line,SL y.lz y.lt (y.locals.map fun s=>[V.str s]),SL y.bz y.bt (y.body.map Sp.row)] 90 0 0):=by simp
  have qi:(s++([.row [.str y.nm,iV y.line,SL y.lz y.lt (y.locals.map fun s=>[V.str s]),SL y.bz y.bt (y.body.map Sp.row)] 90 0 0]:St))[n9]?=some (.row [.str x.nm,iV x.line,SL x.lz x.lt (x.locals.map fun s=>[V.str s]),SL x.bz x.bt (x.body.map Sp.row)] 90 0 0):=Bx k9
  cases hf with
  | no qc=>
   have qo:=Agu qj;simp only at qo;have w1:IntKind.i64.wrap (((F2 Q k:Nat):Int)+(Y.length:Int))=((F2 Q (k+1):Nat):Int):=by rw[qo,Ch AA];rfl
   by_cases e:y.nm=x.nm
   .have f1:(x.nm==y.nm)=true:=by simp[e]
    have f2:((k:Int)<0)=False:=eq_false AA;simp only[go_sem,A0 h',Aj,hy,ql,qm,qi,f1,f2,k1];exact As (kh (k+1,_,(k:Int),F2 Q k) AD ⟨h',A0x qc qj e,qb,qi⟩) rfl
   .have f1:(x.nm==y.nm)=false:=by simp;exact fun h=>e h.symm
    simp only[go_sem,A0 h',Aj,hy,ql,qm,qi,f1,qd,qs,w1,k1];exact As (kh (k+1,_,-1,F2 Q (k+1)) AD ⟨h',by rw[qo];exact Ay0 qc qj e,qb,qi⟩) rfl
  | @yes j r hjk qc hr hrn=>
   have f2:((j:Int)<0)=False:=eq_false AA;have hF:=Ayz (.yes hjk qc hr hrn);by_cases e:y.nm=x.nm
   .have f1:(x.nm==y.nm)=true:=by simp[e]
    simp only[go_sem,A0 h',Aj,hy,ql,qm,qi,f1,f2,k1];exact As (kh (k+1,_,(j:Int),F2 Q j) AD ⟨h',hF,qb,qi⟩) rfl
   .have f1:(x.nm==y.nm)=false:=by simp;exact fun h=>e h.symm
    simp only[go_sem,A0 h',Aj,hy,ql,qm,qi,f1,f2,k1];exact As (kh (k+1,_,(j:Int),F2 Q j) AD ⟨h',hF,qb,qi⟩) rfl
 have qF:k=Q.length:=by rw[<-hQ,Abq];omega
 have jn:=Aon P Q i;clear kh k9
 cases hf with
 | no qc=>
  rw[qF]at qc;have qf:=(Aok (s:=X) qc).1;simp only[go_sem,Bq h',Aj,hx,qH,qZ];refine Bn (α:=Nat × St × V) (fun a=>X.length - a.1) (fun a=>[(3,.ptr 1 0 0),(5,SL zp 0 (p.thrs.map Cq)),(6,SL zq 0 (q.thrs.map Cq)),(7,a.2.2),(21,SL p.tz p.tt (p.thrs.map Tp.row)),(22,iV (p.thrs.length:Int)),(23,iV (i:Int)),(62,iV (X.length:Int)),(63,iV (a.1:Int))]) (fun a=>a.2.1) (fun a=>a.1<=X.length/\MQ p q a.2.1 a.2.2 (H9 (P.take i) Q++List.replicate a.1 (-1))) ?_ (0,s,u) ⟨Au _,by simpa using hm⟩;clear hm;clear s u;rintro⟨m,s,u⟩ ⟨qy,hm⟩ mh;simp only at qy hm mh;refine Bl Bgw ?_;rcases Be m X.length with h2 | h2
  .obtain⟨u',s',ha,qb,ja⟩:=Ajt hm (-1) (by rw[Al,Se];omega);rw[Da,<-List.replicate_succ']at qb;have m1:IntKind.i64.wrap ((m:Int)+1)=((m+1:Nat):Int):=A2 AA;simp only[go_sem,A0 h2,ha,m1];exact As (mh (m+1,s',u') AD ⟨h2,qb⟩) rfl
  .have qw:m=X.length:=by omega
   rw[qw,<-qf,<-qk]at hm;simp only[go_sem,Bq h2,i1];exact As (ih (i+1,s,u) AD ⟨qg,hm⟩) rfl
 | @yes j r hjk qc hr hrn=>
  have jb:=hr;rw[<-hQ]at jb;obtain⟨y,hy,rfl⟩:=A08 jb;have qB:=Ge hy;have qI:(Sp.hdss y.body).length<=4096:=by rw[Io];exact hq.sz y qB
  have qd:Cq y=[SL true 0 ((Sp.hdss y.body).map fun x=>[V.str x])]:=rfl;have qf:=Aq6 (s:=X) qc hr hrn;have hb:=Yo Q j;simp only at qf;generalize hY:Sp.hdss y.body=Y at *;generalize F2 Q j=b at *;have qa:=A9a true true 0 0 X Y qV qI;have qK:(Dn 0 X Y).length=X.length:=Y8 X 0 Y;generalize hA:Dn 0 X Y=A at *;have qn:(C3 A).length=X.length:=by rw[Q0,qK]
  have f2:((j:Int)<0)=False:=eq_false AA;simp only[go_sem,Bq h',f2];refine Ag AE ?_;simp only[go_sem,Aj,hx,qH,hy,qd];refine Bk qa AB ?_;simp only[go_sem,qn];refine Bn (α:=Nat × St × V) (fun a=>X.length - a.1) (fun a=>[(3,.ptr 1 0 0),(5,SL zp 0 (p.thrs.map Cq)),(6,SL zq 0 (q.thrs.map Cq)),(7,a.2.2),(10,iV (b:Int)),(21,SL p.tz p.tt (p.thrs.map Tp.row)),(22,iV (p.thrs.length:Int)),(23,iV (i:Int)),(77,.lst 0 (C3 A)),(78,iV (X.length:Int)),(79,iV (a.1:Int))]) (fun a=>a.2.1) (fun a=>a.1<=X.length/\MQ p q a.2.1 a.2.2 (H9 (P.take i) Q++Jc b (A.take a.1))) ?_ (0,s,u) ⟨Au _,by simpa[Jc] using hm⟩;clear hm;clear s u;rintro⟨m,s,u⟩ ⟨qy,hm⟩ mh;simp only at qy hm mh;refine Bl Bgx ?_;rcases Be m X.length with h2 | h2;rotate_left
  .have qw:m=A.length:=by omega
   rw[qw,Dc,<-qf,<-qk]at hm;simp only[go_sem,Bq h2,i1];exact As (ih (i+1,s,u) AD ⟨qg,hm⟩) rfl
  obtain⟨v,hv⟩:∃ v,A[m]?=some v:=⟨_,Bc AA⟩;have ju:=As5 (X:=X) (Y:=Y) (m:=m) (by rw[hA];exact hv);have qA:(C3 A)[m]?=some [iV v]:=by unfold C3;rw[Aj,hv];rfl
  have qT:=Aoo (b:=b) hv;have m1:IntKind.i64.wrap ((m:Int)+1)=((m+1:Nat):Int):=A2 AA
  obtain⟨w,hw⟩:∃ w:Int,w=if 0<=v then v+b else v:=⟨_,rfl⟩
  obtain⟨u',s',ha,qb,ja⟩:=Ajt hm w (by rw[Al];unfold Jc;rw[Ap,Eg];omega);rw[Da,hw,<-qT]at qb;by_cases h0:0<=v
  .have f1:decide (0<=v)=true:=by simp[h0]
   have f2:IntKind.i64.wrap (v+(b:Int))=w:=by rw[hw,if_pos h0,Ch AA]
   simp only[go_sem,A0 h2,qA,f1,f2,ha,m1];exact As (mh (m+1,s',u') AD ⟨h2,qb⟩) rfl
  .have f1:decide (0<=v)=false:=by simp[h0]
   have f2:w=v:=by rw[hw,if_neg h0]
   rw[f2]at ha;simp only[go_sem,A0 h2,qA,f1,ha,m1];exact As (mh (m+1,s',u') AD ⟨h2,qb⟩) rfl
def Acp{s:List UInt8}{g:Gp}(h:Nn s=some g):PY g:=by
 obtain⟨a,b,c⟩:=Axz h;exact⟨Bin a b fun t ht=>by have:=c t ht;omega,c⟩
set_option maxHeartbeats 1000000 in
def A4p(z1 z2:Bool)(t1 t2:Nat)(l:List Int)(hl:l.length<=1000000000000000):Fn TT PT 18 [SL z1 t1 (C3 l),SL z2 t2 (C3 l)] (.bool true):=by
 refine Bo T18 rfl ?_;have jm:=Q0 l;simp only[go_sem,jm,bne_self_eq_false];refine Bn (α:=Nat) (fun i=>l.length - i) (fun i=>[(0,SL z1 t1 (C3 l)),(1,SL z2 t2 (C3 l)),(12,iV (l.length:Int)),(13,iV (i:Int))]) (fun _=>[]) (fun i=>i<=l.length) ?_ 0 (Au _);intro i hi ih;refine Bl Bgm ?_;rcases Be i l.length with h' | h'
 .obtain⟨x,hx,-,-⟩:=By h';have qp:(C3 l)[i]?=some [iV x]:=by unfold C3;rw[Aj,hx];rfl
  simp only[go_sem,A0 h'];refine Ag AE ?_;simp only[go_sem,qp,bne_self_eq_false];simp only[go_sem,A2 (show i<9223372036854775807 by omega)];exact As (ih (i+1) AA h') rfl
 .simp only[go_sem,Bq h'];exact An rfl rfl
def As6{s:List UInt8}{g:Gp}{v:V}(h:Nn s=some g)(hv:Xf s v):v=.tup [.agg g.row,iV 0,iV 0]:=by
 unfold Xf at hv;rw[h]at hv;exact hv
def A9c{a b c:List UInt8}(h1:a≠c)(h2:b≠c)(h3:a≠b):Dn 0 [a,b] [c,a,b]=[1,2]:=by
 have l1:D0 [b] [b]=1:=by simp[Oq,Oo]
 have l2:D0 [a,b] [c,a,b]=2:=by simp[Oq,Oo,Rj,h1,h2,h3]
 have e1:Mc a [b] [c,a,b]=some 1:=by simp[Mc,Us,List.range_succ,List.range_zero,l1,l2,h1.symm]
 have e2:Mc b [] [b]=some 0:=A39 b [];rw[Dn,e1];simp only[Aa1,I4];rw[Dn,e2];simp[Dn]
def Bj4:(Nn [118,97,114,32,120,59,32,116,104,114,101,97,100,32,109,97,105,110,40,41,32,123,32,120,32,61,32,49,59,32,120,32,61,32,50,59,32,125]).map Hn=some [([109,97,105,110],[[120,32,61,32,49,59],[120,32,61,32,50,59]])]:=by kernel_rfl
def Bj5:(Nn [118,97,114,32,120,59,32,116,104,114,101,97,100,32,109,97,105,110,40,41,32,123,32,120,32,61,32,51,59,32,120,32,61,32,49,59,32,120,32,61,32,50,59,32,125]).map Hn=some [([109,97,105,110],[[120,32,61,32,51,59],[120,32,61,32,49,59],[120,32,61,32,50,59]])]:=by kernel_rfl
def Bip{p q:Gp}(h1:Hn p=[([109,97,105,110],[[120,32,61,32,49,59],[120,32,61,32,50,59]])])(h2:Hn q=[([109,97,105,110],[[120,32,61,32,51,59],[120,32,61,32,49,59],[120,32,61,32,50,59]])]):Jd p q=[1,2]:=by
 unfold Jd;rw[h1,h2,Amj,show H9 ([]:List (List UInt8 × List (List UInt8))) [([109,97,105,110],[[120,32,61,32,51,59],[120,32,61,32,49,59],[120,32,61,32,50,59]])]=[] from rfl,B3];unfold Lh Jc;rw[J5,if_pos rfl];simp only[Xq];rw[A9c (by decide) (by decide) (by decide)];rfl
set_option maxHeartbeats 2000000 in
def Anc:Fn TT PT 6 [] (.bool true):=by
 obtain⟨p,hp,sp⟩:=Bu.1 Bj4;obtain⟨q,hq,sq⟩:=Bu.1 Bj5;obtain⟨v,q1,hv⟩:=Ach [118,97,114,32,120,59,32,116,104,114,101,97,100,32,109,97,105,110,40,41,32,123,32,120,32,61,32,49,59,32,120,32,61,32,50,59,32,125];obtain⟨w,q2,hw⟩:=Ach [118,97,114,32,120,59,32,116,104,114,101,97,100,32,109,97,105,110,40,41,32,123,32,120,32,61,32,51,59,32,120,32,61,32,49,59,32,120,32,61,32,50,59,32,125];rw[As6 hp hv]at q1;rw[As6 hq hw]at q2;have hm:=Aoq (Acp hp) (Acp hq);rw[Bip sp sq]at hm;have hs:=A4p true false 0 1 [1,2] (by decide);rw[show SL false 1 (C3 [1,2])=.lst 1 [[iV 1],[iV 2]] from rfl]at hs;have qh:=Fh p;have qz:=Fh q;rw[qh]at q1 hm;rw[qz]at q2 hm;refine Bo T6 rfl ?_;simp only[go_sem];refine Ad q1 AB ?_;simp only[go_sem];refine Ad q2 AB ?_;simp only[go_sem,beq_self_eq_true];refine Ad hm AB ?_;simp only[go_sem];refine Ad hs AB ?_;simp only[go_sem];exact An rfl rfl
def zeroG:Gp:=⟨true,0,[],true,0,[]⟩
def A1a:zeroG.row=[.nils,.nils]:=by rw[Fh];simp[zeroG,SL]
def Aux{s:List UInt8}{v:V}(h:Xf s v):∃ (g:Gp) (e ln:Int),v=.tup [.agg g.row,iV e,iV ln]/\(e=0->Nn s=some g)/\(e≠0->g=zeroG):=by
 unfold Xf at h
 cases hp:Nn s with
 | some g=>rw[hp]at h;exact⟨g,0,0,h,fun _=>rfl,fun h=>absurd rfl h⟩
 | none=>
  rw[hp]at h;obtain⟨e,ln,he,rfl⟩:=h;exact⟨zeroG,e,ln,by rw[A1a],fun h=>absurd h he,fun _=>rfl⟩
def VeR(v:V):Prop:=∃ (A B:Gp) (ok:Bool),v=.tup [.agg A.row,.agg B.row,.bool ok]/\(ok=true->PY A/\PY B/\∃ P,OKp P/\Nn (Hp P)=some A)
def A4q{g:V}{kill:List Nat}{x y:AC}{k:List It}{e:Env}{σ:St}{Q:Env->St->Prop}(P:Env->St->Prop)(h1:∀ k',(∀ e σ,P e σ->W TT PT k' e σ Q)->WC TT PT g kill x y k' e σ Q)(h2:∀ e σ,P e σ->W TT PT k e σ Q):WC TT PT g kill x y k e σ Q:=h1 k h2
set_option maxHeartbeats 4000000 in
def Ax4(z0 z1 z2:Bool)(t0 t1 t2:Nat)(a b c:List UInt8)(un:Bool)(ha:a.length<=9223372036854775807)(hb:b.length<=9223372036854775807)(hc:c.length<=9223372036854775807):∃ v,Fn TT PT 5 [.agg [SL z0 t0 (Bs a),SL z1 t1 (Bs b),SL z2 t2 (Bs c),.bool un]] v/\VeR v:=by
 obtain⟨P,q1,qC⟩:=Aqt z0 t0 a ha;obtain⟨P2,q2,qD⟩:=Aqt z2 t2 c hc;have qE:=qC.len;have q3:=Ap2 (Aje qC.sh) AA;obtain⟨v4,q4,js⟩:=Ach (Hp P);obtain⟨A,eA,lA,rfl,qX,jf⟩:=Aux js;obtain⟨E,q5,hd,hE⟩:=A82 qC z1 t1 b hb;obtain⟨jd,lE⟩:=Bio qC hd hE;have ji:=Fh P;have qL:=Fh P2;have qn:=Fh A;have jh:=Fh E;rw[ji]at q1 q3 q5;rw[qL]at q2;rw[qn]at q4;rw[jh]at q5;refine Akd T5 rfl ?_;simp only[go_sem];refine Ad q1 AB ?_;simp only[go_sem];refine Ad q3 AB ?_;simp only[go_sem];refine Ad q4 AB ?_;simp only[go_sem];refine Ag AE ?_;simp only[go_sem];refine Bk q1 AB ?_;simp only[go_sem];refine Bk q5 AB ?_;simp only[go_sem];refine Ba ?_;simp only[go_sem];refine Ba ?_;simp only[go_sem];refine A4q (fun e s=>∃ R:Gp,(CnG R/\(Hp R).length<=20000000000)/\(e=[(1,.ptr 0 0 0),(2,.ptr 1 0 0),(3,.ptr 2 0 0),(5,.ptr 3 0 0),(8,.ptr 4 0 0)]\/e=[(2,.ptr 1 0 0),(3,.ptr 2 0 0),(5,.ptr 3 0 0),(8,.ptr 4 0 0)])/\s=[.row [SL z0 t0 (Bs a),SL z1 t1 (Bs b),SL z2 t2 (Bs c),.bool un] 24 0 0,.row [.nils,.nils] 29 0 0,.row [.nils,.nils] 29 0 0,.row [SL A.dz A.dt (A.decls.map Dp.row),SL A.tz A.tt (A.thrs.map Tp.row)] 29 0 0,.row [SL R.dz R.dt (R.decls.map Dp.row),SL R.tz R.tt (R.thrs.map Tp.row)] 29 0 0]) ?_ ?_
 .intro k' qu;cases un
  .simp only[go_sem];exact qu _ _ ⟨E,⟨jd,lE⟩,.inl rfl,rfl⟩
  .simp only[go_sem];refine Ad q2 AB ?_;simp only[go_sem];exact qu _ _ ⟨P2,⟨Aje qD.sh,by have:=qD.len;omega⟩,.inr rfl,rfl⟩
 rintro _ _ ⟨R,⟨je,lR⟩,he,rfl⟩;have q6:=Ap2 je AA;obtain⟨v7,q7,jt⟩:=Ach (Hp R);obtain⟨B,eB,lB,rfl,jg,jw⟩:=Aux jt;have jj:=Fh R;have qY:=Fh B;have qO:(A.thrs.map Tp.row).length=A.thrs.length:=Ap ..;rw[jj]at q6;rw[qY]at q7
 have qJ:∀ ok:Bool,(ok=true->eB=0/\0<A.thrs.length)->VeR (.tup [.agg [SL A.dz A.dt (A.decls.map Dp.row),SL A.tz A.tt (A.thrs.map Tp.row)],.agg [SL B.dz B.dt (B.decls.map Dp.row),SL B.tz B.tt (B.thrs.map Tp.row)],.bool ok]):=fun ok h=>by
  refine⟨A,B,ok,by rw[qn,qY],fun jq=>?_⟩;obtain⟨h1,h2⟩:=h jq
  have h3:eA=0:=Decidable.byContradiction fun jp=>by
   have:=jf jp;rw[this]at h2;simp[zeroG]at h2
  exact⟨Acp (qX h3),Acp (jg h1),P,qC,qX h3⟩
 rcases he with rfl | rfl
 all_goals (
  simp only[go_sem];refine Ad q6 AB ?_;simp only[go_sem];refine Ad q7 AB ?_;simp only[go_sem];by_cases h0:eB=0
  .by_cases h1:0<A.thrs.length
   .have f1:(eB==0)=true:=by simp[h0]
    have f2:(0<(A.thrs.length:Int))=True:=eq_true AA;refine Ag AE ?_;simp only[go_sem,f1,qO,f2];refine Ba ?_;simp only[go_sem];refine Ba ?_;simp only[go_sem];refine⟨.tup [.agg [SL A.dz A.dt (A.decls.map Dp.row),SL A.tz A.tt (A.thrs.map Tp.row)],.agg [SL B.dz B.dt (B.decls.map Dp.row),SL B.tz B.tt (B.thrs.map Tp.row)],.bool true],?_,qJ true fun _=>⟨h0,h1⟩⟩;simp only[go_sem];exact Hk AB
   .have f1:(eB==0)=true:=by simp[h0]
    have f2:(0<(A.thrs.length:Int))=False:=eq_false AA;refine Ag AE ?_;simp only[go_sem,f1,qO,f2];refine Ba ?_;simp only[go_sem];refine Ba ?_;simp only[go_sem];refine⟨.tup [.agg [SL A.dz A.dt (A.decls.map Dp.row),SL A.tz A.tt (A.thrs.map Tp.row)],.agg [SL B.dz B.dt (B.decls.map Dp.row),SL B.tz B.tt (B.thrs.map Tp.row)],.bool false],?_,qJ false fun h=>by cases h⟩;simp only[go_sem];exact Hk AB
  .have f1:(eB==0)=false:=by simp[h0]
   refine Ag AE ?_;simp only[go_sem,f1,qO];refine Ba ?_;simp only[go_sem];refine Ba ?_;simp only[go_sem];refine⟨.tup [.agg [SL A.dz A.dt (A.decls.map Dp.row),SL A.tz A.tt (A.thrs.map Tp.row)],.agg [SL B.dz B.dt (B.decls.map Dp.row),SL B.tz B.tt (B.thrs.map Tp.row)],.bool false],?_,qJ false fun h=>by cases h⟩;simp only[go_sem]
   exact Hk AB)
def Aq9{zs:List Int}(hs:zs.Pairwise (·<=·)):∀ m,m<=zs.length->(Lib.compactUpTo zs.toArray m).Pairwise (·<·)/\∀ x,x∈Lib.compactUpTo zs.toArray m↔x∈zs.take m
 | 0,_=>by
  have:Lib.compactUpTo zs.toArray 0=[]:=rfl;rw[this];exact⟨List.Pairwise.nil,fun x=>by simp⟩
 | m+1,hm=>by
  obtain⟨h1,h2⟩:=Aq9 hs m AA;have hg:∀ j,j<zs.length->∃ h:j<zs.length,(zs.toArray[j]!)=zs[j]:=fun j hj=>⟨hj,by rw[getElem!_pos zs.toArray j (by simpa using hj)];simp⟩
  obtain⟨qb,e1⟩:=hg m AA
  have qG:∀ x∈zs.take m,x<=zs[m]:=fun x hx=>by
   obtain⟨i,hi,rfl⟩:=Afr.1 hx;simp at hi;rw[Afx];exact Uz.1 hs i m _ _ AA
  have qk:∀ x,x∈zs.take (m+1)↔x∈zs.take m\/x=zs[m]:=fun x=>by
   rw[G7,Bc qb,B8];simp
  rw[Lib.compactUpTo_succ];by_cases hk:Lib.keeps zs.toArray m=true
  .rw[if_pos hk,e1];refine⟨?_,fun x=>by rw[B8,qk,h2];simp⟩;rw[Aay];refine⟨h1,List.pairwise_singleton _ _,fun x hx y hy=>?_⟩;rw[Eo.1 hy];rw[h2]at hx;have jv:=qG x hx;rcases Int.lt_or_eq_of_le jv with h | h
   .exact h
   .exfalso;unfold Lib.keeps at hk;have jo:m≠0:=fun e=>by subst e;simp at hx
    simp only[decide_eq_true_eq,jo,false_or]at hk;obtain⟨hp,e2⟩:=hg (m - 1) AA;rw[e1,e2]at hk;apply hk;obtain⟨i,hi,rfl⟩:=Afr.1 hx;simp at hi;rw[Afx]at h;have a1:zs[m - 1]<=zs[m]:=Uz.1 hs (m - 1) m _ _ AA
    have a2:zs[i]<=zs[m - 1]:=by
     rcases Be i (m - 1) with h3 | h3
     .exact Uz.1 hs i (m - 1) _ _ h3
     .have:i=m - 1:=by omega
      subst this;exact Sy _
    omega
  .rw[if_neg hk,B3];refine⟨h1,fun x=>?_⟩;rw[h2,qk];refine⟨.inl,fun h=>h.elim id fun h=>?_⟩;unfold Lib.keeps at hk;simp only[decide_eq_true_eq,not_or,Decidable.not_not]at hk;obtain⟨hp,e2⟩:=hg (m - 1) AA;rw[e1,e2]at hk;rw[h,hk.2];exact Afr.2 ⟨m - 1,by simp;omega,by rw[Afx]⟩
def Auy:∀ {a b:List Int},a.Pairwise (·<·)->b.Pairwise (·<·)->(∀ x,x∈a↔x∈b)->a=b
 | [],[],_,_,_=>rfl
 | [],y::b,_,_,h=>absurd ((h y).2 C5) AH
 | x::a,[],_,_,h=>absurd ((h x).1 C5) AH
 | x::a,y::b,h1,h2,h=>by
  obtain⟨a1,a2⟩:=Sm.1 h1;obtain⟨b1,b2⟩:=Sm.1 h2
  have e:x=y:=by
   rcases Bj.1 ((h x).1 C5) with hx | hx
   .exact hx
   .rcases Bj.1 ((h y).2 C5) with hy | hy
    .exact hy.symm
    .have:=a1 y hy;have:=b1 x hx;omega
  subst e;rw[Auy a2 b2 fun z=>⟨fun hz=>?_,fun hz=>?_⟩]
  .rcases Bj.1 ((h z).1 (C4 _ hz)) with rfl | qW
   .have:=a1 z hz;omega
   .exact qW
  .rcases Bj.1 ((h z).2 (C4 _ hz)) with rfl | qW
   .have:=b1 z hz;omega
   .exact qW
def A9d{L S:List Int}{n:Nat}(hp:S.Perm L)(hs:S.Pairwise (·<=·))(hn:∀ x∈L,0<=x/\x<(n:Int)):Lib.compact S=((List.range n).filter fun s:Nat=>decide ((s:Int)∈L)).map fun s:Nat=>(s:Int):=by
 obtain⟨h1,h2⟩:=Aq9 hs S.length (Ai _);refine Auy h1 ?_ fun x=>?_
 .rw[List.pairwise_map];refine List.Pairwise.imp (fun {a b} h=>?_) (List.Pairwise.filter _ List.pairwise_lt_range);omega
 .show x∈Lib.compactUpTo S.toArray S.length↔_;rw[h2,Dc,hp.mem_iff];simp only[Ct,Pc,E1,decide_eq_true_eq];refine⟨fun hx=>⟨x.toNat,⟨by have:=hn x hx;omega,by rw[Aa0 (hn x hx).1];exact hx⟩,Aa0 (hn x hx).1⟩,?_⟩;rintro⟨s,⟨-,h⟩,rfl⟩;exact h
section
variable {κ:Type} [DecidableEq κ]
def Gt:List κ->κ->Option Nat
 | [],_=>none
 | x::l,k=>if x=k then some 0 else(Gt l k).map (·+1)
def S3:∀ {l:List κ} {k:κ} {s:Nat},Gt l k=some s↔l[s]?=some k/\∀ j,j<s->l[j]?≠some k
 | [],k,s=>by simp[Gt]
 | x::l,k,s=>by
  rw[Gt];by_cases h:x=k
  .rw[if_pos h];constructor
   .intro e;rw[<-Jo e];exact⟨by simp[h],fun j hj=>by omega⟩
   .rintro⟨-,h2⟩
    cases s with
    | zero=>rfl
    | succ s=>exact absurd (by simp[h]) (h2 0 (Nat.succ_pos s))
  .rw[if_neg h]
   cases s with
   | zero=>
    constructor
    .intro e
     cases hs:Gt l k<;>rw[hs]at e<;>simp at e
    .rintro⟨h1,-⟩;simp at h1;exact absurd h1 h
   | succ s=>
    constructor
    .intro e
     have e2:Gt l k=some s:=by
      cases hs:Gt l k with
      | none=>rw[hs]at e;simp at e
      | some a=>rw[hs]at e;simp at e;rw[e]
     obtain⟨h1,h2⟩:=S3.1 e2;refine⟨by simpa using h1,fun j hj=>?_⟩
     cases j with
     | zero=>simpa using h
     | succ j=>simpa using h2 j AA
    .rintro⟨h1,h2⟩;have:Gt l k=some s:=S3.2 ⟨by simpa using h1,fun j hj=>by have:=h2 (j+1) AA;simpa using this⟩;rw[this];rfl
def Ane{l:List κ}{k:κ}:Gt l k=none↔∀ j:Nat,l[j]?≠some k:=by
 constructor
 .intro h j hj
  induction l generalizing j with
  | nil=>simp at hj
  | cons x l ih=>
   rw[Gt]at h
   split at h
   .cases h
   .rename_i hx
    cases j with
    | zero=>simp at hj;exact hx hj
    | succ j=>exact ih (by simpa using h) j (by simpa using hj)
 .intro h
  cases hs:Gt l k with
  | none=>rfl
  | some s=>exact absurd (S3.1 hs).1 (h s)
def D3(ks:List κ)(m:List Int)(named:List κ):List Int:=named.filterMap fun k=>match Gt ks k with
 | some s=>if m.getD s 0<0 then some (s:Int) else none
 | none=>none
def Aor{ks:List κ}{m:List Int}{named:List κ}{x:Int}:x∈D3 ks m named↔∃ (s:Nat) (k:κ),x=s/\k∈named/\Gt ks k=some s/\m.getD s 0<0:=by
 unfold D3;rw[Aft];constructor
 .rintro⟨k,hk,h⟩
  cases hs:Gt ks k with
  | none=>rw[hs]at h;simp at h
  | some s=>
   rw[hs]at h;simp only at h
   split at h
   .rename_i hm;exact⟨s,k,(Jo h).symm,hk,hs,hm⟩
   .cases h
 .rintro⟨s,k,rfl,hk,hs,hm⟩;exact⟨k,hk,by rw[hs];simp only;rw[if_pos hm]⟩
def A1b{ks:List κ}{m:List Int}{named:List κ}:∀ x∈D3 ks m named,0<=x/\x<(ks.length:Int):=fun x hx=>by
 obtain⟨s,k,rfl,-,hs,-⟩:=Aor.1 hx;have:=(Ak.1 (S3.1 hs).1).1;omega
def P6(ks:List κ)(m:List Int)(named:List κ):List Nat:=(List.range ks.length).filter fun s=>match ks[s]? with
 | some k=>decide (m.getD s 0<0)&&(decide (Gt ks k=some s)&&decide (k∈named))
 | none=>false
def A1c{ks:List κ}{m:List Int}{named:List κ}{S:List Int}(hp:S.Perm (D3 ks m named))(hs:S.Pairwise (·<=·)):Go.Lib.compact S=(P6 ks m named).map fun s:Nat=>(s:Int):=by
 rw[A9d hp hs A1b];congr 1;unfold P6;refine List.filter_congr fun s hs=>?_
 rw[E1]at hs;rw[Bc hs];simp only;rw[Xt];simp only[decide_eq_true_eq,Af];rw[Aor];constructor
 .rintro⟨s',k,e,h1,h2,h3⟩;have:s=s':=by omega
  subst this;have hk:=(S3.1 h2).1;rw[Bc hs]at hk;have hk:=Jo hk;rw[hk];exact⟨h3,h2,h1⟩
 .rintro⟨h1,h2,h3⟩;exact⟨s,ks[s],rfl,h3,h2,h1⟩
end
def Aea(nm:List UInt8):List (List UInt8)->List (List UInt8)->List Bm
 | _,[]=>[]
 | P,x::X=>(nm,x,(P.count x:Int))::Aea nm (P++[x]) X
def As7(nm:List UInt8):∀ (X P:List (List UInt8)),F1 nm P X=(Aea nm P X).map Bd
 | [],_=>rfl
 | x::X,P=>by rw[F1,Aea,Bb,As7 nm X];rfl
def Ew(p:Gp):List Bm:=(p.thrs.map fun t=>Aea t.nm [] (Sp.hdss t.body)).flatten
def V9(p:Gp):Ig p=(Ew p).map Bd:=by
 unfold Ig Ew;rw[List.map_flatten,Na];congr 1;exact U0 fun t _=>As7 _ _ _
def Ahg(p:Gp):(Ew p).length=(Ig p).length:=by rw[V9,Ap]
def N2(k:Bm):Int:=k.2.2+3*(k.2.1.length:Int)+5*(k.1.length:Int)
def P7(K:List Bm)(seen:Int)(i:Nat)(k:Bm):Bm:=
 if K.length=0\/(N2 k).tmod 7=0 then k else K.getD ((N2 k+seen*(i:Int)).tmod (K.length:Int)).toNat k
def Ld(K:List Bm)(seen:Int):Nat->List Bm->List Bm
 | _,[]=>[]
 | i,k::l=>P7 K seen i k::Ld K seen (i+1) l
def Tf(K:List Bm)(seen:Int):∀ (l:List Bm) (i:Nat),(Ld K seen i l).length=l.length
 | [],_=>rfl
 | _::l,i=>by rw[Ld,Am,Am,Tf K seen l]
def Ent.sto(K:List Bm)(e:Ent):Ent:=⟨e.kind,Ld K e.seen 0 e.sites,e.seen,e.missed,true,0⟩
def Ii(K:List Bm)(l:List Ent)(n:Nat):List Ent:=(l.take n).foldl (fun s e=>Jg (e.sto K) s) []
def Aos{K:List Bm}{l:List Ent}{i:Nat}{e:Ent}(h:l[i]?=some e):Ii K l (i+1)=Jg (e.sto K) (Ii K l i):=by
 unfold Ii;rw[G7,h];simp[List.foldl_append]
def Ah1(K:List Bm)(l:List Ent):∀ i,(Ii K l i).length<=i/\Qk (Ii K l i)/\∀ e∈Ii K l i,∃ x∈l,e=x.sto K
 | 0=>by simp[Ii,Qk]
 | i+1=>by
  obtain⟨h1,h2,h3⟩:=Ah1 K l i
  cases hx:l[i]? with
  | none=>
   have:Ii K l (i+1)=Ii K l i:=by
    unfold Ii;rw[G7,hx];simp
   rw[this];exact⟨by omega,h2,h3⟩
  | some x=>
   rw[Aos hx];refine⟨by have:=Apv (e:=x.sto K) (l:=Ii K l i);omega,Apt h2,fun e he=>?_⟩;rcases Apu he with rfl | he
   .exact⟨x,Ge hx,rfl⟩
   .exact h3 e he
def sI(K:List Bm)(k:Bm):Int:=match Gt K k with
 | some s=>(s:Int)
 | none => -1
def Auz{K:List Bm}{k:Bm}{i:Nat}(h:K[i]?=some k)(hn:∀ j,j<i->K[j]?≠some k):sI K k=(i:Int):=by
 unfold sI;rw[S3.2 ⟨h,hn⟩]
def As8{K:List Bm}{k:Bm}(hn:∀ j,j<K.length->K[j]?≠some k):sI K k = -1:=by
 unfold sI
 rw[Ane.2 fun j=>by
  rcases Be j K.length with h | h
  .exact hn j h
  .rw[O8 h];exact fun e=>by cases e]
def W0(k x:Bm):Z7 [2,2,1] (.agg [.str k.1,.str k.2.1,iV k.2.2]) (.agg [.str x.1,.str x.2.1,iV x.2.2])=some (decide (k=x)):=by
 obtain⟨a,b,c⟩:=k;obtain⟨a',b',c'⟩:=x;simp only[Z7,Am,C9,and_self,if_true,K7,eqS,Db,Prod.mk.injEq]
 by_cases h1:a=a'<;>by_cases h2:b=b'<;>by_cases h3:c=c'<;>simp[h1,h2,h3]
def A4r(z:Bool)(t:Nat)(K:List Bm)(k:Bm)(hK:K.length<=1000000000000):Fn TT PT 35 [SL z t (K.map Bd),.agg [.str k.1,.str k.2.1,iV k.2.2]] (iV (sI K k)):=by
 have hl:(K.map Bd).length=K.length:=Ap ..;refine Bo T35 rfl ?_;simp only[go_sem,hl];refine Bn (α:=Nat) (fun i=>K.length - i) (fun i=>[(0,SL z t (K.map Bd)),(3,.ptr 0 0 0),(7,iV (K.length:Int)),(8,iV (i:Int))]) (fun _=>[.row [.str k.1,.str k.2.1,iV k.2.2] 47 0 0]) (fun i=>i<=K.length/\∀ j,j<i->K[j]?≠some k) ?_ 0 ⟨Au _,fun j hj=>by omega⟩;rintro i ⟨hi,hn⟩ ih;refine Bl Bg0 ?_;rcases Be i K.length with h' | h'
 .obtain⟨x,hx,-,-⟩:=By h';have i1:IntKind.i64.wrap ((i:Int)+1)=((i+1:Nat):Int):=A2 AA;by_cases e:k=x
  .have f1:decide (k=x)=true:=decide_eq_true e;simp only[go_sem,A0 h'];refine Ag AE ?_;simp only[go_sem,Aj,hx,Bd,W0,f1];exact An rfl (by rw[Auz (by rw[hx,e]) hn])
  .have f1:decide (k=x)=false:=decide_eq_false e;simp only[go_sem,A0 h'];refine Ag AE ?_;simp only[go_sem,Aj,hx,Bd,W0,f1];simp only[go_sem,i1]
   exact As (ih (i+1) AA ⟨h',fun j hj=>by
    rcases Be j i with h2 | h2
    .exact hn j h2
    .have:j=i:=by omega
     subst this;rw[hx]
     exact fun e2=>e (Jo e2).symm⟩) rfl
 .simp only[go_sem,Bq h'];have:i=K.length:=by omega
  subst this;exact An rfl (by rw[As8 hn])
def A9e{p:Gp}(h:PX p)(k:Bm)(hK:(Ew p).length<=1000000000000):Fn TT PT 12 [.agg p.row,.agg [.str k.1,.str k.2.1,iV k.2.2]] (iV (sI (Ew p) k)):=by
 have hk:=Aqy h;rw[V9]at hk;have hi:=A4r true 0 (Ew p) k hK;have qh:=Fh p;rw[qh]at hk ⊢;refine Bo T12 rfl ?_;simp only[go_sem];refine Ag AE ?_;simp only[go_sem];refine Bk hk AB ?_;simp only[go_sem];refine Bk hi AB ?_;simp only[go_sem];exact An rfl rfl
set_option maxHeartbeats 1000000 in
def A1d{p:Gp}(h:PX p)(k:Bm)(hK:(Ew p).length<=1000000000000):Fn TT PT 27 [.agg p.row,.agg [.str k.1,.str k.2.1,iV k.2.2]] (iV (sI (Ew p) k)):=by
 have hk:=Ahy h;rw[V9]at hk;have qh:=Fh p;rw[qh]at hk ⊢;generalize Ew p=K at *;have hl:(K.map Bd).length=K.length:=Ap ..;refine Bo T27 rfl ?_;simp only[go_sem];refine Ad hk AB ?_;simp only[go_sem,hl];refine Bn (α:=Nat × St) (fun a=>K.length - a.1) (fun a=>[(3,.ptr 1 0 0),(8,SL true 0 (K.map Bd)),(9,iV (K.length:Int)),(10,iV (a.1:Int))]) (fun a=>.row [SL p.dz p.dt (p.decls.map Dp.row),SL p.tz p.tt (p.thrs.map Tp.row)] 29 0 0::.row [.str k.1,.str k.2.1,iV k.2.2] 47 0 0::a.2) (fun a=>a.1<=K.length/\∀ j,j<a.1->K[j]?≠some k) ?_ (0,[]) ⟨Au _,fun j hj=>by simp at hj⟩;rintro⟨i,s⟩ ⟨hi,hn⟩ ih;simp only at hi hn ih;refine Bl Bgz ?_;rcases Be i K.length with h' | h'
 .obtain⟨x,hx,-,-⟩:=By h';have i1:IntKind.i64.wrap ((i:Int)+1)=((i+1:Nat):Int):=A2 AA;by_cases e:x=k
  .have f1:decide (x=k)=true:=decide_eq_true e;simp only[go_sem,A0 h',Aj,hx,Bd,W0,f1];exact An rfl (by rw[Auz (by rw[hx,e]) hn])
  .have f1:decide (x=k)=false:=decide_eq_false e;simp only[go_sem,A0 h',Aj,hx,Bd,W0,f1,i1]
   exact As (ih (i+1,_) AD ⟨h',fun j hj=>by
    rcases Be j i with h2 | h2
    .exact hn j h2
    .have:j=i:=by simp only at hj;omega
     subst this;rw[hx]
     exact fun e2=>e (Jo e2)⟩) rfl
 .simp only[go_sem,Bq h'];have:i=K.length:=by omega
  subst this;exact An rfl (by rw[As8 hn])
def A4s(z1 z2:Bool)(t1 t2:Nat)(K:List Bm)(hK:K.length<=1000000000000):Fn TT PT 8 [SL z1 t1 (K.map Bd),SL z2 t2 (K.map Bd)] (.bool true):=by
 have hl:(K.map Bd).length=K.length:=Ap ..;refine Bo T8 rfl ?_;simp only[go_sem,hl,bne_self_eq_false];refine Bn (α:=Nat) (fun i=>K.length - i) (fun i=>[(0,SL z1 t1 (K.map Bd)),(1,SL z2 t2 (K.map Bd)),(12,iV (K.length:Int)),(13,iV (i:Int))]) (fun _=>[]) (fun i=>i<=K.length) ?_ 0 (Au _);intro i hi ih;refine Bl Bji ?_;rcases Be i K.length with h' | h'
 .obtain⟨x,hx,-,-⟩:=By h';have f1:decide (x=x)=true:=decide_eq_true rfl;simp only[go_sem,A0 h'];refine Ag AE ?_;simp only[go_sem,Aj,hx,Bd,W0,f1];simp only[go_sem,A2 (show i<9223372036854775807 by omega)];exact As (ih (i+1) AA h') rfl
 .simp only[go_sem,Bq h'];exact An rfl rfl
