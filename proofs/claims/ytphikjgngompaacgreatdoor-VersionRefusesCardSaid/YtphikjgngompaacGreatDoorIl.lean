/- Walks: the maker of programs: statements. Printed by gen_il.py. -/
import Derived.Test.YtphikjgngompaacGreatDoorHa
set_option linter.all false
namespace Go.Proofs.YtphikjgngompaacGreatDoor.KM
open Go
def H1{l:List UInt8}(h:(B3 l&&decide (l.length<=4))=true):L8 l:=by
 simp only[Al,decide_eq_true_eq]at h;exact h
def G5(nm:List UInt8):Xp:=⟨2,0,nm,true,0,[]⟩
def Gq(n:Int):Xp:=⟨1,n,[],true,0,[]⟩
def Mt(op:Int)(nm:List UInt8)(n:Int):Xp:=⟨op,0,[],true,1,[G5 nm,Gq n]⟩
def Azq(op:Int)(nm:List UInt8)(n:Int):Fn TT PT 113 [iV op,.agg [iV 2,iV 0,.str nm,.nils],.agg [iV 1,iV n,.str [],.nils]] (.agg [iV op,iV 0,.str [],.lst 1 [[iV 2,iV 0,.str nm,.nils],[iV 1,iV n,.str [],.nils]]]):=by
 have h:=Auy op (G5 nm) (Gq n);rw[Bi ⟨op,0,[],true,1,[G5 nm,Gq n]⟩]at h;simp only[Bh,B0]at h;rw[Bi (G5 nm),Bi (Gq n)]at h;exact h
def Akz(op:Int)(nm:List UInt8)(n:Int):(Mt op nm n).l.map Xp.row=[[iV 2,iV 0,.str nm,.nils],[iV 1,iV n,.str [],.nils]]:=by
 unfold Mt;simp only[Bh,B0];rw[Bi (G5 nm),Bi (Gq n)];rfl
def Bmw{nm:List UInt8}(h:L8 nm)(d:Nat):MX d (G5 nm):=by
 refine⟨.name h.1,?_,?_⟩
 .rw[show(G5 nm).txt=nm by unfold G5;rw[F2];rfl];have:=Aft d;have:=h.2;omega
 .unfold G5;rw[Ha];have:=Aev d;have:=h.2;simp[Cx];omega
def Ayj{op:Int}(ho:6<=op/\op<=18):MX 1 (Mt op [98] 2)/\MX 1 (Mt op [98] 1):=by
 have jn:∀ n:Int,(n=1\/n=2)->MX 1 (Mt op [98] n):=by
  intro n hn;have hx:ShE (G5 [98]):=.name AD;have hy:ShE (Gq n):=.num AA;have t1:(G5 [98]).txt=[98]:=by unfold G5;rw[F2];rfl
  have t2:(Gq n).txt.length=1:=by
   rcases hn with rfl | rfl<;>(unfold Gq;rw[F2];rfl)
  refine⟨.bin ho hx hy,?_,?_⟩
  .unfold Mt;rw[F2];have h2:=(N9 ((G5 [98]).op,(G5 [98]).txt) (Ik op)).2;have jA:=(N9 ((Gq n).op,(Gq n).txt) (Bu op+1)).2;simp only at h2 jA;have h3:(Cr op).length<=2:=Au0 _
   have h0:Em op 0 [] [((G5 [98]).op,(G5 [98]).txt),((Gq n).op,(Gq n).txt)]=Eh ((G5 [98]).op,(G5 [98]).txt) (Ik op)++32::(Cr op++32::Eh ((Gq n).op,(Gq n).txt) (Bu op+1)):=by
    unfold Em;rw[if_neg AA,if_neg AA]
   have e1:EB 1=54:=rfl;have t3:(G5 [98]).txt.length=1:=by rw[t1];rfl
   simp only[Bh,B0,h0,Aj,Be];omega
  .have x1:O6 1=36:=rfl;rw[Ha];unfold Mt;simp only[Bh,B0,Cx,Dn];rw[Ha,Ha,x1];unfold G5 Gq;simp[Cx]
 exact⟨jn 2 (.inr rfl),jn 1 (.inl rfl)⟩
def L9(nm:List UInt8)(x:Xp):Sp:=⟨1,0,nm,[],true,0,[],x,true,0,[],true,0,[]⟩
def Aey(nm:List UInt8)(x:Xp):(L9 nm x).row=[iV 1,iV 0,.str nm,.str [],.nils,iV x.op,iV x.n,.str x.nm,SL x.z x.t (x.l.map Xp.row),.nils,.nils]:=by
 rw[Fr];rfl
def Ak0{k:Nat}{nm:List UInt8}{x:Xp}(hn:L8 nm)(hx:MX 1 x)(z:Bool)(t:Nat)(z':Bool)(t':Nat):SM k ⟨1,0,nm,[],true,0,[],x,z,t,[],z',t',[]⟩:=
 Jl AE AE (fun h=>absurd rfl h) AE (.inl ⟨rfl,hx⟩) (.inr ⟨rfl,hn⟩) (.inl ⟨by simp,rfl⟩) (fun _=>rfl) (fun _=>rfl) (fun h=>by have h:false=true:=h;cases h)
def Al2{k:Nat}{nm:List UInt8}{x:Xp}(hn:L8 nm)(hx:MX 1 x):SM k (L9 nm x):=
 Jl (by simp[L9]) (by simp[L9]) (fun h=>absurd rfl h) (by simp[L9]) (.inl ⟨rfl,hx⟩) (.inr ⟨rfl,hn⟩) (.inl ⟨by simp[L9],rfl⟩) (fun _=>rfl) (fun _=>rfl) (fun h=>by have h:false=true:=h;cases h) (by simp[L9])
def Ma(op:Int)(nm:List UInt8):Sp:=⟨op,0,nm,[],true,0,[],Xp.zero,true,0,[],true,0,[]⟩
def Wv(op:Int)(nm:List UInt8):(Ma op nm).row=(sZ op 0 nm []):=by
 rw[Fr];rfl
def Aat{k:Nat}{op:Int}{nm:List UInt8}(ho:op=9\/op=10\/op=11\/op=12\/op=13)(hn:L8 nm):SM k (Ma op nm):=by
 rcases ho with rfl | rfl | rfl | rfl | rfl
 all_goals exact Jl (by simp[Ma]) (by simp[Ma]) (fun _=>rfl) (by simp[Ma]) (.inr ⟨rfl,rfl⟩) (.inr ⟨rfl,hn⟩) (.inl ⟨by simp[Ma],rfl⟩) (fun _=>rfl) (fun _=>rfl) (fun h=>by have h:false=true:=h;cases h) (by simp[Ma])
set_option maxRecDepth 20000 in
set_option maxHeartbeats 16000000 in
def Aox{k:Nat}(hk:k<=20)(ih:∀ j,j<k->MSs j):MSt k:=by
 intro σ m b uH H h hH;have jI:=Lt h
 suffices hh:∃ v σ',Th TT PT 70 [.ptr m 0 0,iV (k:Int)] σ v σ'/\((∃ x:Sp,v=.agg x.row/\SM k x)/\(∃ uH',MKr σ' m b uH' H)/\FW m σ σ') from hh
 refine A7n T70 rfl ?_;have e3:k≠0->IntKind.i64.wrap ((k:Int) - 1)=((k - 1:Nat):Int):=fun h0=>by rw[Bo AA];omega
 refine Ff (fun e s=>e=[(0,.ptr m 0 0),(1,iV (k:Int)),(4,.ptr σ.length 0 0)]/\MW σ s m b H) ?_ ?_
 .intro k' qb;simp only[go_sem];obtain⟨a1,a2⟩:=Ad1 h [sP 0 0 [] []] (Jf h.cl rfl);exact qb _ _ ⟨rfl,⟨_,a1⟩,a2,by simp,fun hm=>by rw[H7 a1,<-H7 h]at hm;exact Aet (τ:=σ) h (Am _) hm,jI⟩
 clear h uH;rintro e s ⟨rfl,h1⟩;refine Ff (fun e s=>e=[(0,.ptr m 0 0),(1,iV (k:Int)),(4,.ptr σ.length 0 0)]/\MW σ s m b H) ?_ ?_
 .intro k' qb;obtain⟨th,left,se,tx,ao,lp,vH,m1,ho⟩:=J1 h1;simp only[go_sem,m1];exact qb _ _ ⟨rfl,(ho _ _ _ _ _ _).1⟩
 clear h1 s;rintro e s ⟨rfl,h1⟩;refine Ff (fun e s=>∃ r:Nat,r<18/\e=[(0,.ptr m 0 0),(1,iV (k:Int)),(4,.ptr σ.length 0 0),(5,iV (r:Int))]/\MW σ s m b H) ?_ ?_
 .intro k' qb;obtain⟨th,left,se,tx,ao,lp,vH,m1,-⟩:=J1 h1;obtain⟨r,s2,q,hr,h2,w2,mm⟩:=Wm h1 18;simp only[go_sem,m1];refine Aa q ?_;simp only[go_sem];exact qb _ _ ⟨r,by omega,rfl,h2⟩
 clear h1 s;rintro e s ⟨r,hr,rfl,h1⟩;refine Ff (fun e s=>∃ nb:Bool,(nb=true->k≠0)/\e=[(0,.ptr m 0 0),(1,iV (k:Int)),(4,.ptr σ.length 0 0),(5,iV (r:Int)),(6,.bool nb)]/\MW σ s m b H) ?_ ?_
 .intro k' qb;obtain⟨th,left,se,tx,ao,lp,vH,m1,-⟩:=J1 h1;by_cases qc:k=0
  .have f1:((0:Int)<(k:Int))=False:=eq_false AA;simp only[go_sem,gt_iff_lt,f1];exact qb _ _ ⟨false,(fun h=>by cases h),rfl,h1⟩
  have f1:((0:Int)<(k:Int))=True:=eq_true AA;by_cases hl:0<left
  .have f2:((0:Int)<left)=True:=eq_true hl;cases tx
   .simp only[go_sem,gt_iff_lt,f1,f2,m1,Bc];exact qb _ _ ⟨true,fun _=>qc,rfl,h1⟩
   .simp only[go_sem,gt_iff_lt,f1,f2,m1,Ba];exact qb _ _ ⟨false,(fun h=>by cases h),rfl,h1⟩
  .have f2:((0:Int)<left)=False:=eq_false hl;simp only[go_sem,gt_iff_lt,f1,f2,m1];exact qb _ _ ⟨false,(fun h=>by cases h),rfl,h1⟩
 clear h1 s;rintro e s ⟨nb,qD,rfl,h1⟩;have qM:H.length<=1000:=by omega
 refine Ff (fun e s=>e=[(0,.ptr m 0 0),(1,iV (k:Int)),(4,.ptr σ.length 0 0)]/\MW σ s m b H) ?_ ?_;rotate_left
 .clear h1 s;rintro e s ⟨rfl,h1⟩;obtain⟨x,s2,q2,hx,h2,w2,xs⟩:=Uh h1 1;simp only[go_sem];refine Bv q2 ?_;simp only[go_sem];refine Ab (Vv [120] x) AB ?_;simp only[go_sem,h2.z];exact Jh (op:=1) (line:=0) (nm:=[120]) (arg:=[]) (iz:=true) (it:=0) (idx:=[]) (ex:=x) (LB:=[]) (LE:=[]) h2 rfl (.inl ⟨true,0,rfl⟩) (.inl ⟨true,0,rfl⟩) AH fun _ _ _ _=>Ak0 (H1 AD) hx _ _ _ _
 intro k' qb;rcases(show r<4\/r=4\/r=5\/r=6\/r=7\/r=8\/r=9\/r=10\/r=11\/r=12\/r=13\/r=14\/r=15\/r=16\/r=17 by omega) with h4 | rfl | rfl | rfl | rfl | rfl | rfl | rfl | rfl | rfl | rfl | rfl | rfl | rfl | rfl
 .obtain⟨nm,hn,ja⟩:=Y0 [[120],[121],[120],[118]] AD (j:=r) AP;simp only[Bh,B0]at hn;have f1:((r:Int)<4)=True:=eq_true AA;obtain⟨x,s2,q2,hx,h2,w2,xs⟩:=Uh h1 1;simp only[go_sem,f1];refine Ad AD ?_;simp only[go_sem,hn];refine Ia (Aeu q2) ?_;simp only[go_sem];refine Ax (Vv nm x) (by simp only[go_sem,xs]) ?_;simp only[go_sem,h2.z];refine Bd ?_;simp only[go_sem];exact Jh (op:=1) (line:=0) (nm:=nm) (arg:=[]) (iz:=true) (it:=0) (idx:=[]) (ex:=x) (LB:=[]) (LE:=[]) h2 rfl (.inl ⟨true,0,rfl⟩) (.inl ⟨true,0,rfl⟩) AH fun _ _ _ _=>Ak0 ja hx _ _ _ _
 .obtain⟨th,left,se,tx,ao,lp,vH,m1,-⟩:=J1 h1;obtain⟨j,s2,q2,hj,h2,w2,kc⟩:=Wm h1 2;obtain⟨nm,hn,ja⟩:=Y0 [[97],[98]] AD (j:=j) AP;simp only[Bh,B0]at hn;obtain⟨x,s3,q3,hx,h3,w3,xs⟩:=Uh h2 1;have jT:Bw TT PT 38 [.ptr b 0 0,iV 2] s (iV (j:Int)) s2:=q2;simp only[go_sem,C4,Int.reduceLT,Int.reduceBEq];refine Ad AD ?_;simp only[go_sem,m1];refine Ia jT ?_;simp only[go_sem,hn];refine wgR ?_;simp only[go_sem];have jU:Th TT PT 112 [.ptr m 0 0,iV 1] s2 (.agg (xR x)) s3:=q3;refine Ia (Aeu jU) ?_;simp only[go_sem];refine Ax (Vv nm x) (by simp only[go_sem,xs]) ?_;simp only[go_sem,h3.z];refine Bd ?_;simp only[go_sem];exact Jh (op:=1) (line:=0) (nm:=nm) (arg:=[]) (iz:=true) (it:=0) (idx:=[]) (ex:=x) (LB:=[]) (LE:=[]) h3 rfl (.inl ⟨true,0,rfl⟩) (.inl ⟨true,0,rfl⟩) AH fun _ _ _ _=>Ak0 ja hx _ _ _ _
 .obtain⟨y,s2,q2,hy,h2,w2,ys⟩:=Uh h1 0;obtain⟨x,s3,q3,hx,h3,w3,xs⟩:=Uh h2 1;have jR:=Bi y;simp only[go_sem,C4,Int.reduceLT,Int.reduceBEq];refine Bv q2 ?_;simp only[go_sem];refine Bv q3 ?_;simp only[go_sem,h3.z];exact Jh (op:=1) (line:=0) (nm:=[113]) (arg:=[]) (iz:=true) (it:=1) (idx:=[y]) (ex:=x) (LB:=[]) (LE:=[]) h3 rfl (.inl ⟨true,0,rfl⟩) (.inl ⟨true,0,rfl⟩) (by simp only[Bh,B0,jR];rfl) fun _ _ _ _=>Jl AE AE (fun h=>absurd rfl h) (by simp;exact hy) (.inl ⟨rfl,hx⟩) (.inr ⟨rfl,H1 AD⟩) (.inl ⟨by simp,rfl⟩) (fun _=>rfl) (fun _=>rfl) (fun h=>by have h:false=true:=h;cases h)
 .by_cases qc:k=0
  .have f1:((0:Int)<(k:Int))=False:=eq_false AA;simp only[go_sem,C4,Int.reduceLT,Int.reduceBEq,gt_iff_lt,f1];exact qb _ _ ⟨rfl,h1⟩
  have f1:((0:Int)<(k:Int))=True:=eq_true AA;have ek:=e3 qc;obtain⟨x,s2,q2,hx,h2,w2,xs⟩:=Uh h1 1;obtain⟨u3,L3,s3,q3,b3,⟨qu,qv,qn,r3⟩,⟨L31,L32⟩,h3,w3⟩:=Y3 (ih (k - 1) AA) h2 AA 1;obtain⟨jm,js,jq,jc,je⟩:=Ad2 h3 (.row [iV 2,iV 0,.str [],.str [],.nils,iV x.op,iV x.n,.str x.nm,SL x.z x.t (x.l.map Xp.row),u3,.nils] 100 0 0) (by simp only[Ob.refs,Ah,N6,V.refs,Ct,Bz];exact fun i hi=>Vl (C0 b3.1 i hi));obtain⟨s4,jg⟩:∃ t,t=s3++[Ob.row [iV 2,iV 0,.str [],.str [],.nils,iV x.op,iV x.n,.str x.nm,SL x.z x.t (x.l.map Xp.row),u3,.nils] 100 0 0]:=⟨_,rfl⟩;rw[<-jg]at jm js jq jc;have h4:=jm;have b4:=Q3 b3 js;obtain⟨th,left,se,tx,ao,lp,vH,m4,-⟩:=J1 h4;obtain⟨j,s5,q5,hj,h5,w5,ke⟩:=Wm h4 2;have b5:=Q3 b4 w5;obtain⟨k5,n5⟩:=Jc w5 jc jq;simp only[go_sem,C4,Int.reduceLT,Int.reduceBEq,gt_iff_lt,f1];refine Bv q2 ?_;simp only[go_sem,ek];refine Aa q3 ?_;simp only[go_sem,qu,qv,qn];rw[<-jg];simp only[go_sem,m4];refine Aa q5 ?_;by_cases j1:j=1
  .subst j1;obtain⟨u6,L6,s6,q6,b6,⟨jv,jw,jx,r6⟩,⟨L61,L62⟩,h6,w6⟩:=Y3 (ih (k - 1) AA) h5 AA 1;obtain⟨k6,n6⟩:=Jc w6 k5 n5;have jd:=Q3 b5 w6;have jL:σ.length<s3.length:=W7 h3;have jE:s3.length<s6.length:=(An.1 k6).1;have jO:s3.length ∉ u3.refs:=fun e=>by have:=C0 b3.1 _ e;omega
   have jP:s3.length ∉ u6.refs:=fun e=>by
    have:=r6 _ e;have:=w5.1;have:=(An.1 jc).1;omega
   have h7:=Bg6 h6 (.row [iV 2,iV 0,.str [],.str [],.nils,iV x.op,iV x.n,.str x.nm,SL x.z x.t (x.l.map Xp.row),u3,u6] 100 0 0) jL n6 (by
    simp only[Ob.refs,Ah,N6,V.refs,Ct,Bz];intro i hi;rcases Cs.1 hi with hi | hi
    .exact C0 jd.1 i hi
    .exact C0 b6.1 i hi)
   have k7:(s6.set s3.length (.row [iV 2,iV 0,.str [],.str [],.nils,iV x.op,iV x.n,.str x.nm,SL x.z x.t (x.l.map Xp.row),u3,u6] 100 0 0))[s3.length]?=some (.row [iV 2,iV 0,.str [],.str [],.nils,iV x.op,iV x.n,.str x.nm,SL x.z x.t (x.l.map Xp.row),u3,u6] 100 0 0):=Cf jE;have z7:=h7.z;have jt:=Aw2 (.row [iV 2,iV 0,.str [],.str [],.nils,iV x.op,iV x.n,.str x.nm,SL x.z x.t (x.l.map Xp.row),u3,u6] 100 0 0) jd jO je;have ju:=Aw2 (.row [iV 2,iV 0,.str [],.str [],.nils,iV x.op,iV x.n,.str x.nm,SL x.z x.t (x.l.map Xp.row),u3,u6] 100 0 0) b6 jP je;simp only[go_sem,C4,Int.reduceBEq,ek];refine Aa q6 ?_;simp only[go_sem,k6,jv,jw,jx,qn,k7,z7];exact Jh (op:=2) (line:=0) (nm:=[]) (arg:=[]) (iz:=true) (it:=0) (idx:=[]) (ex:=x) (LB:=L3) (LE:=L6) h7 rfl (.inr jt) (.inr ju) AH fun _ _ _ _=>Jl AE AE (fun _=>rfl) AE (.inl ⟨rfl,hx⟩) (.inl ⟨rfl,rfl⟩) (.inl ⟨by simp,rfl⟩) (fun h=>by have h:true=false:=h;cases h) (fun h=>absurd rfl h) (fun _=>⟨qc,⟨Dd L32 AA,L31⟩,⟨L62,L61⟩⟩)
  .have fj:((j:Int)==1)=false:=by simp;omega
   simp only[go_sem,fj,k5,h5.z,qn];exact Jh (op:=2) (line:=0) (nm:=[]) (arg:=[]) (iz:=true) (it:=0) (idx:=[]) (ex:=x) (LB:=L3) (LE:=[]) h5 rfl (.inr b5) (.inl ⟨true,0,rfl⟩) AH fun _ _ _ _=>Jl AE AE (fun _=>rfl) AE (.inl ⟨rfl,hx⟩) (.inl ⟨rfl,rfl⟩) (.inl ⟨by simp,rfl⟩) (fun h=>by have h:true=false:=h;cases h) (fun h=>absurd rfl h) (fun _=>⟨qc,⟨Dd L32 AA,L31⟩,⟨by simp,by simp⟩⟩)
 .by_cases qc:k=0
  .have f1:((0:Int)<(k:Int))=False:=eq_false AA;simp only[go_sem,C4,Int.reduceLT,Int.reduceBEq,gt_iff_lt,f1];exact qb _ _ ⟨rfl,h1⟩
  have f1:((0:Int)<(k:Int))=True:=eq_true AA;have ek:=e3 qc;obtain⟨qi,qa,qm,qo,qg,ql,qy,m1,qx⟩:=J1 h1;obtain⟨h2,w2⟩:=qx qi qa qm qo qg true;obtain⟨s2,qp⟩:∃ t,t=s.set m (mO b qi qa qm qo qg true qy):=⟨_,rfl⟩;rw[<-qp]at h2 w2;obtain⟨u3,L3,s3,q3,b3,⟨qu,qv,qn,r3⟩,⟨L31,L32⟩,h3,w3⟩:=Y3 (ih (k - 1) AA) h2 AA 1;obtain⟨u4,s4,ha,b4,⟨qQ,qR,qA⟩,h4⟩:=Bg7 b3 h3 (L9 [98] (Mt 6 [98] 1)) AA;rw[Aey,Akz]at ha;simp only[Mt,SL,reduceCtorEq,and_false,true_and,if_false]at ha;have qP:=Vv [98] (Mt 6 [98] 1);rw[Akz]at qP;simp only[Mt,SL,reduceCtorEq,and_false,true_and,if_false]at qP;obtain⟨qE,qK,qH,qG,jf⟩:=Ad2 h4 (.row [iV 3,iV 0,.str [],.str [],.nils,iV 13,iV 0,.str [],.lst 1 [[iV 2,iV 0,.str [98],.nils],[iV 1,iV 2,.str [],.nils]],u4,.nils] 100 0 0) (by simp only[Ob.refs,Ah,N6,V.refs,Ct,Bz];exact fun i hi=>Vl (C0 b4.1 i hi));obtain⟨s5,qB⟩:∃ t,t=s4++[Ob.row [iV 3,iV 0,.str [],.str [],.nils,iV 13,iV 0,.str [],.lst 1 [[iV 2,iV 0,.str [98],.nils],[iV 1,iV 2,.str [],.nils]],u4,.nils] 100 0 0]:=⟨_,rfl⟩;rw[<-qB]at qE qK qH qG;have h5:=qE;have b5:=Q3 b4 qK;obtain⟨qJ,qd,qI,qO,qL,qN,qU,m5,qS⟩:=J1 h5;obtain⟨h6,w6⟩:=qS qJ qd qI qO qL ql;obtain⟨s6,qC⟩:∃ t,t=s5.set m (mO b qJ qd qI qO qL ql qU):=⟨_,rfl⟩;rw[<-qC]at h6 w6;have b6:=Q3 b5 w6;obtain⟨k6,n6⟩:=Jc w6 qG qH;simp only[go_sem,C4,Int.reduceLT,Int.reduceBEq,gt_iff_lt,f1,m1];rw[<-qp];refine Ab (Afu _) AH ?_;simp only[go_sem];refine Ab (Agf _) AH ?_;simp only[go_sem];refine Ab (Azq _ _ _) AH ?_;simp only[go_sem,ek];refine Aa q3 ?_;simp only[go_sem];refine Ab (Afu _) AH ?_;simp only[go_sem];refine Ab (Agf _) AH ?_;simp only[go_sem];refine Ab (Azq _ _ _) AH ?_;simp only[go_sem];refine Ab qP AH ?_;simp only[go_sem,ha,qQ,qR,qA];rw[<-qB];simp only[go_sem,m5];rw[<-qC];simp only[go_sem,k6,h6.z,qA]
  exact Jh (op:=3) (line:=0) (nm:=[]) (arg:=[]) (iz:=true) (it:=0) (idx:=[]) (ex:=Mt 13 [98] 2) (LB:=(L3++[L9 [98] (Mt 6 [98] 1)])) (LE:=[]) h6 rfl (.inr b6) (.inl ⟨true,0,rfl⟩) (by rw[Akz];rfl) fun _ _ _ _=>Jl AE AE (fun _=>rfl) AE (.inl ⟨rfl,(Ayj AA).1⟩) (.inl ⟨rfl,rfl⟩) (.inl ⟨by simp,rfl⟩) (fun h=>by have h:true=false:=h;cases h) (fun _=>rfl) (fun _=>⟨qc,⟨Dd (Nat.le_of_eq Aj) (by rw[I8];omega),fun y hy=>(Cs.1 hy).elim (L31 y) fun hy=>by rw[Hh.1 hy];exact Al2 (H1 AD) (Ayj AA).2⟩,⟨by simp,by simp⟩⟩)
 .cases nb
  .simp only[go_sem,C4,Int.reduceLT,Int.reduceBEq];exact qb _ _ ⟨rfl,h1⟩
  have qc:=qD rfl;have ek:=e3 qc;obtain⟨z,qh⟩:=Wd h1 qM [109];simp only[go_sem,C4,Int.reduceLT,Int.reduceBEq,Int.reduceSub];refine Bv qh ?_;cases z;rotate_left
  .simp only[go_sem,C4,Int.reduceLT,Int.reduceBEq,Ba];exact qb _ _ ⟨rfl,h1⟩
  obtain⟨u3,L3,s3,q3,b3,⟨qu,qv,qn,r3⟩,⟨L31,L32⟩,h3,w3⟩:=Adi (Acv (ih (k - 1) AA)) h1 AA [109];simp only[go_sem,C4,Int.reduceLT,Int.reduceBEq,Int.reduceSub,Bc,ek];refine Aa q3 ?_;simp only[go_sem,qu,qv,qn,h3.z];exact Jh (op:=4) (line:=0) (nm:=[109]) (arg:=[]) (iz:=true) (it:=0) (idx:=[]) (ex:=Xp.zero) (LB:=L3) (LE:=[]) h3 rfl (.inr b3) (.inl ⟨true,0,rfl⟩) AH fun _ _ _ _=>Jl AE AE (fun _=>rfl) AE (.inr ⟨rfl,rfl⟩) (.inr ⟨rfl,H1 AD⟩) (.inl ⟨by simp,rfl⟩) (fun h=>by have h:true=false:=h;cases h) (fun _=>rfl) (fun _=>⟨qc,⟨Dd L32 AA,L31⟩,⟨by simp,by simp⟩⟩)
 .cases nb
  .simp only[go_sem,C4,Int.reduceLT,Int.reduceBEq];exact qb _ _ ⟨rfl,h1⟩
  have qc:=qD rfl;have ek:=e3 qc;obtain⟨z,qh⟩:=Wd h1 qM [110];simp only[go_sem,C4,Int.reduceLT,Int.reduceBEq,Int.reduceSub];refine Bv qh ?_;cases z;rotate_left
  .simp only[go_sem,C4,Int.reduceLT,Int.reduceBEq,Ba];exact qb _ _ ⟨rfl,h1⟩
  obtain⟨u3,L3,s3,q3,b3,⟨qu,qv,qn,r3⟩,⟨L31,L32⟩,h3,w3⟩:=Adi (Acv (ih (k - 1) AA)) h1 AA [110];simp only[go_sem,C4,Int.reduceLT,Int.reduceBEq,Int.reduceSub,Bc,ek];refine Aa q3 ?_;simp only[go_sem,qu,qv,qn,h3.z];exact Jh (op:=4) (line:=0) (nm:=[110]) (arg:=[]) (iz:=true) (it:=0) (idx:=[]) (ex:=Xp.zero) (LB:=L3) (LE:=[]) h3 rfl (.inr b3) (.inl ⟨true,0,rfl⟩) AH fun _ _ _ _=>Jl AE AE (fun _=>rfl) AE (.inr ⟨rfl,rfl⟩) (.inr ⟨rfl,H1 AD⟩) (.inl ⟨by simp,rfl⟩) (fun h=>by have h:true=false:=h;cases h) (fun _=>rfl) (fun _=>⟨qc,⟨Dd L32 AA,L31⟩,⟨by simp,by simp⟩⟩)
 .cases nb
  .simp only[go_sem,C4,Int.reduceLT,Int.reduceBEq];exact qb _ _ ⟨rfl,h1⟩
  have qc:=qD rfl;have ek:=e3 qc;obtain⟨z,qh⟩:=Wd h1 qM [114];simp only[go_sem,C4,Int.reduceLT,Int.reduceBEq,Int.reduceSub];refine Bv qh ?_;cases z;rotate_left
  .simp only[go_sem,C4,Int.reduceLT,Int.reduceBEq,Ba];exact qb _ _ ⟨rfl,h1⟩
  obtain⟨u3,L3,s3,q3,b3,⟨qu,qv,qn,r3⟩,⟨L31,L32⟩,h3,w3⟩:=Adi (Acv (ih (k - 1) AA)) h1 AA [114];simp only[go_sem,C4,Int.reduceLT,Int.reduceBEq,Int.reduceSub,Int.reduceAdd,Bc,ek];refine Aa q3 ?_;simp only[go_sem,qu,qv,qn,h3.z];exact Jh (op:=5) (line:=0) (nm:=[114]) (arg:=[]) (iz:=true) (it:=0) (idx:=[]) (ex:=Xp.zero) (LB:=L3) (LE:=[]) h3 rfl (.inr b3) (.inl ⟨true,0,rfl⟩) AH fun _ _ _ _=>Jl AE AE (fun _=>rfl) AE (.inr ⟨rfl,rfl⟩) (.inr ⟨rfl,H1 AD⟩) (.inl ⟨by simp,rfl⟩) (fun h=>by have h:true=false:=h;cases h) (fun _=>rfl) (fun _=>⟨qc,⟨Dd L32 AA,L31⟩,⟨by simp,by simp⟩⟩)
 .cases nb
  .simp only[go_sem,C4,Int.reduceLT,Int.reduceBEq];exact qb _ _ ⟨rfl,h1⟩
  have qc:=qD rfl;have ek:=e3 qc;obtain⟨z,qh⟩:=Wd h1 qM [114];simp only[go_sem,C4,Int.reduceLT,Int.reduceBEq,Int.reduceSub];refine Bv qh ?_;cases z;rotate_left
  .simp only[go_sem,C4,Int.reduceLT,Int.reduceBEq,Ba];exact qb _ _ ⟨rfl,h1⟩
  obtain⟨u3,L3,s3,q3,b3,⟨qu,qv,qn,r3⟩,⟨L31,L32⟩,h3,w3⟩:=Adi (Acv (ih (k - 1) AA)) h1 AA [114];simp only[go_sem,C4,Int.reduceLT,Int.reduceBEq,Int.reduceSub,Int.reduceAdd,Bc,ek];refine Aa q3 ?_;simp only[go_sem,qu,qv,qn,h3.z];exact Jh (op:=6) (line:=0) (nm:=[114]) (arg:=[]) (iz:=true) (it:=0) (idx:=[]) (ex:=Xp.zero) (LB:=L3) (LE:=[]) h3 rfl (.inr b3) (.inl ⟨true,0,rfl⟩) AH fun _ _ _ _=>Jl AE AE (fun _=>rfl) AE (.inr ⟨rfl,rfl⟩) (.inr ⟨rfl,H1 AD⟩) (.inl ⟨by simp,rfl⟩) (fun h=>by have h:true=false:=h;cases h) (fun _=>rfl) (fun _=>⟨qc,⟨Dd L32 AA,L31⟩,⟨by simp,by simp⟩⟩)
 .cases nb
  .simp only[go_sem,C4,Int.reduceLT,Int.reduceBEq];exact qb _ _ ⟨rfl,h1⟩
  have qc:=qD rfl;have ek:=e3 qc;obtain⟨qi,qa,qm,qo,qg,ql,qy,m1,qx⟩:=J1 h1;obtain⟨h2,w2⟩:=qx qi qa qm true qg ql;obtain⟨s2,qp⟩:∃ t,t=s.set m (mO b qi qa qm true qg ql qy):=⟨_,rfl⟩;rw[<-qp]at h2 w2;obtain⟨kg,jo,kf,kh,jX,kb,ki,m2,-⟩:=J1 h2;obtain⟨j,s3,q3,hj,h3,w3,jp⟩:=Wm h2 2;have ej:IntKind.i64.wrap (1+(j:Int))=((1+j:Nat):Int):=by rw[Bo AA];omega
  obtain⟨u4,L4,s4,q4,b4,⟨qQ,qR,qA,r4⟩,⟨L41,L42⟩,h4,w4⟩:=Y3 (ih 0 AA) h3 AA (1+j);obtain⟨qE,qK,qH,qG,jf⟩:=Ad2 h4 (.row [iV 7,iV 0,.str [],.str [],.nils,iV 0,iV 0,.str [],.nils,u4,.nils] 100 0 0) (by simp only[Ob.refs,Ah,N6,V.refs,Ct,Bz];exact fun i hi=>Vl (C0 b4.1 i hi));obtain⟨s5,qB⟩:∃ t,t=s4++[Ob.row [iV 7,iV 0,.str [],.str [],.nils,iV 0,iV 0,.str [],.nils,u4,.nils] 100 0 0]:=⟨_,rfl⟩;rw[<-qB]at qE qK qH qG;have h5:=qE;have b5:=Q3 b4 qK;obtain⟨qJ,qd,qI,qO,qL,qN,qU,m5,qS⟩:=J1 h5;obtain⟨h6,w6⟩:=qS qJ qd qI false qL qN;obtain⟨s6,qC⟩:∃ t,t=s5.set m (mO b qJ qd qI false qL qN qU):=⟨_,rfl⟩;rw[<-qC]at h6 w6;have b6:=Q3 b5 w6;obtain⟨k6,n6⟩:=Jc w6 qG qH;simp only[go_sem,C4,Int.reduceLT,Int.reduceBEq,m1];rw[<-qp];simp only[go_sem,m2];refine Aa q3 ?_;simp only[go_sem,ej];refine Aa q4 ?_;simp only[go_sem,qQ,qR,qA];rw[<-qB];simp only[go_sem,m5];rw[<-qC];simp only[go_sem,k6,h6.z,qA];exact Jh (op:=7) (line:=0) (nm:=[]) (arg:=[]) (iz:=true) (it:=0) (idx:=[]) (ex:=Xp.zero) (LB:=L4) (LE:=[]) h6 rfl (.inr b6) (.inl ⟨true,0,rfl⟩) AH fun _ _ _ _=>Jl AE AE (fun _=>rfl) AE (.inr ⟨rfl,rfl⟩) (.inl ⟨rfl,rfl⟩) (.inl ⟨by simp,rfl⟩) (fun h=>by have h:true=false:=h;cases h) (fun _=>rfl) (fun _=>⟨qc,⟨Dd L42 AA,fun y hy=>Bcc (As _) (L41 y hy)⟩,⟨by simp,by simp⟩⟩)
 .cases nb
  .simp only[go_sem,C4,Int.reduceLT,Int.reduceBEq];exact qb _ _ ⟨rfl,h1⟩
  have qc:=qD rfl;have ek:=e3 qc;obtain⟨qi,qa,qm,qo,qg,ql,qy,m1,qx⟩:=J1 h1;cases qg;rotate_left
  .simp only[go_sem,C4,Int.reduceLT,Int.reduceBEq,m1,Ba];exact qb _ _ ⟨rfl,h1⟩
  obtain⟨h2,w2⟩:=qx qi qa qm qo true ql;obtain⟨s2,qp⟩:∃ t,t=s.set m (mO b qi qa qm qo true ql qy):=⟨_,rfl⟩;rw[<-qp]at h2 w2;obtain⟨u4,L4,s4,q4,b4,⟨qQ,qR,qA,r4⟩,⟨L41,L42⟩,h4,w4⟩:=Y3 (ih (k - 1) AA) h2 AA 2;obtain⟨qE,qK,qH,qG,jf⟩:=Ad2 h4 (.row [iV 8,iV 0,.str [],.str [],.nils,iV 0,iV 0,.str [],.nils,u4,.nils] 100 0 0) (by simp only[Ob.refs,Ah,N6,V.refs,Ct,Bz];exact fun i hi=>Vl (C0 b4.1 i hi));obtain⟨s5,qB⟩:∃ t,t=s4++[Ob.row [iV 8,iV 0,.str [],.str [],.nils,iV 0,iV 0,.str [],.nils,u4,.nils] 100 0 0]:=⟨_,rfl⟩;rw[<-qB]at qE qK qH qG;have h5:=qE;have b5:=Q3 b4 qK;obtain⟨qJ,qd,qI,qO,qL,qN,qU,m5,qS⟩:=J1 h5;obtain⟨h6,w6⟩:=qS qJ qd qI qO false qN;obtain⟨s6,qC⟩:∃ t,t=s5.set m (mO b qJ qd qI qO false qN qU):=⟨_,rfl⟩;rw[<-qC]at h6 w6;have b6:=Q3 b5 w6;obtain⟨k6,n6⟩:=Jc w6 qG qH;simp only[go_sem,C4,Int.reduceLT,Int.reduceBEq,m1,Bc];rw[<-qp];simp only[go_sem,ek];refine Aa q4 ?_;simp only[go_sem,qQ,qR,qA];rw[<-qB];simp only[go_sem,m5];rw[<-qC];simp only[go_sem,k6,h6.z,qA];exact Jh (op:=8) (line:=0) (nm:=[]) (arg:=[]) (iz:=true) (it:=0) (idx:=[]) (ex:=Xp.zero) (LB:=L4) (LE:=[]) h6 rfl (.inr b6) (.inl ⟨true,0,rfl⟩) AH fun _ _ _ _=>Jl AE AE (fun _=>rfl) AE (.inr ⟨rfl,rfl⟩) (.inl ⟨rfl,rfl⟩) (.inl ⟨by simp,rfl⟩) (fun h=>by have h:true=false:=h;cases h) (fun _=>rfl) (fun _=>⟨qc,⟨Dd L42 AA,L41⟩,⟨by simp,by simp⟩⟩)
 .cases nb
  .simp only[go_sem,C4,Int.reduceLT,Int.reduceBEq];exact qb _ _ ⟨rfl,h1⟩
  have qc:=qD rfl;have ek:=e3 qc;obtain⟨qi,qa,qm,qo,qg,ql,qy,m1,qx⟩:=J1 h1;cases qg;rotate_left
  .simp only[go_sem,C4,Int.reduceLT,Int.reduceBEq,m1,Ba];exact qb _ _ ⟨rfl,h1⟩
  obtain⟨z,qh⟩:=Wd h1 qM [109];simp only[go_sem,C4,Int.reduceLT,Int.reduceBEq,m1,Bc];refine Bv qh ?_;cases z;rotate_left
  .simp only[go_sem,C4,Int.reduceLT,Int.reduceBEq,Ba];exact qb _ _ ⟨rfl,h1⟩
  have qP:=Vv [97] (G5 [120]);simp only[G5,SL,B0,and_self,true_and,if_true]at qP;simp only[go_sem,Bc];refine Ab (Afu _) AH ?_;simp only[go_sem];refine Ab qP AH ?_;simp only[go_sem,h1.z];exact Jh (op:=4) (line:=0) (nm:=[109]) (arg:=[]) (iz:=true) (it:=0) (idx:=[]) (ex:=Xp.zero) (LB:=[Ma 9 [99],L9 [97] (G5 [120])]) (LE:=[]) h1 rfl (.inl ⟨true,1,by simp only[Bh,B0,Wv,Aey];rfl⟩) (.inl ⟨true,0,rfl⟩) (by simp only[Bh,B0,Wv,Aey];rfl) fun _ _ _ _=>Jl AE AE (fun _=>rfl) AE (.inr ⟨rfl,rfl⟩) (.inr ⟨rfl,H1 AD⟩) (.inl ⟨by simp,rfl⟩) (fun h=>by have h:true=false:=h;cases h) (fun _=>rfl) (fun _=>⟨qc,⟨by simp,fun y hy=>by simp only[B7,Qi,or_false]at hy;rcases hy with rfl | rfl<;>first | exact Aat (.inl rfl) (H1 AD) | exact Al2 (H1 AD) (Bmw (H1 AD) 1)⟩,⟨by simp,by simp⟩⟩)
 .cases nb
  .simp only[go_sem,C4,Int.reduceLT,Int.reduceBEq];exact qb _ _ ⟨rfl,h1⟩
  have qc:=qD rfl;have ek:=e3 qc;obtain⟨z,qh⟩:=Wd h1 qM [109];simp only[go_sem,C4,Int.reduceLT,Int.reduceBEq];refine Bv qh ?_;cases z;rotate_left
  .simp only[go_sem,C4,Int.reduceLT,Int.reduceBEq,Ba];exact qb _ _ ⟨rfl,h1⟩
  obtain⟨qi,qa,qm,qo,qg,ql,qy,m1,qx⟩:=J1 h1;obtain⟨j,s3,q3,hj,h3,w3,jp⟩:=Wm h1 2;have ej:IntKind.i64.wrap (10+(j:Int))=10+(j:Int):=Bo AA;simp only[go_sem,Bc,m1];refine Aa q3 ?_;simp only[go_sem,ej,h3.z];exact Jh (op:=4) (line:=0) (nm:=[109]) (arg:=[]) (iz:=true) (it:=0) (idx:=[]) (ex:=Xp.zero) (LB:=[Ma (10+(j:Int)) [99]]) (LE:=[]) h3 rfl (.inl ⟨true,1,by simp only[Bh,B0,Wv];rfl⟩) (.inl ⟨true,0,rfl⟩) (by simp only[Bh,B0,Wv];rfl) fun _ _ _ _=>Jl AE AE (fun _=>rfl) AE (.inr ⟨rfl,rfl⟩) (.inr ⟨rfl,H1 AD⟩) (.inl ⟨by simp,rfl⟩) (fun h=>by have h:true=false:=h;cases h) (fun _=>rfl) (fun _=>⟨qc,⟨by simp,fun y hy=>by rw[Hh.1 hy];exact Aat AA (H1 AD)⟩,⟨by simp,by simp⟩⟩)
 .obtain⟨qi,qa,qm,qo,qg,ql,qy,m1,qx⟩:=J1 h1;cases qo;rotate_left
  .simp only[go_sem,C4,Int.reduceLT,Int.reduceBEq,m1,Ba];exact qb _ _ ⟨rfl,h1⟩
  cases ql;rotate_left
  .simp only[go_sem,C4,Int.reduceLT,Int.reduceBEq,m1,Ba,Bc];exact qb _ _ ⟨rfl,h1⟩
  cases qm;rotate_left
  .simp only[go_sem,C4,Int.reduceLT,Int.reduceBEq,m1,Ba,Bc];exact qb _ _ ⟨rfl,h1⟩
  obtain⟨h2,w2⟩:=qx qi qa true false qg false;obtain⟨s2,qp⟩:∃ t,t=s.set m (mO b qi qa true false qg false qy):=⟨_,rfl⟩;rw[<-qp]at h2 w2;obtain⟨x,s3,q3,hx,h3,w3,xs⟩:=Uh h2 1;simp only[go_sem,C4,Int.reduceLT,Int.reduceBEq,m1,Bc];rw[<-qp];refine Bv q3 ?_;simp only[go_sem,h3.z];exact Jh (op:=14) (line:=0) (nm:=[102]) (arg:=[]) (iz:=true) (it:=0) (idx:=[]) (ex:=x) (LB:=[]) (LE:=[]) h3 rfl (.inl ⟨true,0,rfl⟩) (.inl ⟨true,0,rfl⟩) AH fun _ _ _ _=>Jl AE AE (fun _=>rfl) AE (.inl ⟨rfl,hx⟩) (.inr ⟨rfl,H1 AD⟩) (.inl ⟨by simp,rfl⟩) (fun _=>rfl) (fun _=>rfl) (fun h=>by have h:false=true:=h;cases h)
 .obtain⟨qi,qa,qm,qo,qg,ql,qy,m1,qx⟩:=J1 h1;cases qo;rotate_left
  .simp only[go_sem,C4,Int.reduceLT,Int.reduceBEq,m1,Ba];exact qb _ _ ⟨rfl,h1⟩
  obtain⟨j,s3,q3,hj,h3,w3,jp⟩:=Wm h1 2;simp only[go_sem,C4,Int.reduceLT,Int.reduceBEq,m1,Bc];refine Aa q3 ?_;by_cases j1:j=1
  .subst j1;simp only[go_sem,C4,Int.reduceBEq,h3.z];exact Jh (op:=15) (line:=0) (nm:=[97]) (arg:=[102]) (iz:=true) (it:=0) (idx:=[]) (ex:=Xp.zero) (LB:=[]) (LE:=[]) h3 rfl (.inl ⟨true,0,rfl⟩) (.inl ⟨true,0,rfl⟩) AH fun _ _ _ _=>Jl AE AE (fun _=>rfl) AE (.inr ⟨rfl,rfl⟩) (.inr ⟨rfl,H1 AD⟩) (.inr ⟨rfl,H1 AD⟩) (fun _=>rfl) (fun _=>rfl) (fun h=>by have h:false=true:=h;cases h)
  .have fj:((j:Int)==1)=false:=by simp;omega
   simp only[go_sem,fj];exact qb _ _ ⟨rfl,h3⟩
def Ap5:∀ (K:Nat),K<=20->∀ k,k<=K->MSt k/\MSs k
 | 0,hK,k,hk=>by
  have h:=Aox (k:=k) AA fun j hj=>by omega
  exact⟨h,Ap4 h⟩
 | K+1,hK,k,hk=>by
  have h:=Aox (k:=k) AA fun j hj=>(Ap5 K AA j AA).2
  exact⟨h,Ap4 h⟩
theorem Gt{σ τ:St}{m e lo:Nat}{u:V}{xs:List (List V)}(h:GW σ m e lo u xs)(hk:∀ i∈u.refs,τ[i]?=σ[i]?):GW τ m e lo u xs:=by
 rcases h with h | ⟨hn,i,g,h,ho,qz⟩
 .exact .inl h
 .exact .inr ⟨hn,i,g,h,by grind[V.refs],qz⟩
def C8{σ:St}{m e lo:Nat}{u:V}{xs:List (List V)}(h:GW σ m e lo u xs):∀ i∈u.refs,lo<=i/\i<σ.length:=by
 intro j hj;rcases h with⟨rfl,-⟩ | ⟨hn,i,g,rfl,ho,qz⟩
 .grind[V.refs]
 grind[V.refs]
def Bg9{σ:St}{m e lo:Nat}{u:V}{xs:List (List V)}(h:GW σ m e lo u xs)(hl:∀ r∈xs,r.length=m):E5 σ m u=some xs:=by
 rcases h with⟨rfl,rfl⟩ | ⟨hn,i,g,rfl,ho,qz⟩
 .rfl
 .simp only[E5,ho];rw[if_pos ⟨trivial,trivial,by grind[Gj]⟩,Mc,Tm hl]
def Bha{σ:St}{m e:Nat}{u:V}{xs:List (List V)}(h:GS σ m e u xs):E5 σ m u=some xs:=by
 obtain⟨⟨hl,hr⟩,h⟩:=h;rcases h with⟨rfl,rfl⟩ | ⟨i,g,r,q,rfl,ho,hq,ka⟩
 .rfl
 .simp only[E5,ho];rw[if_pos ⟨trivial,trivial,by grind[Gj]⟩,Mc,Acp m xs r hl]
def A7r(a:List V)(k:Nat):∀ i∈Ah (a.take k),i∈Ah a:=by
 grind[K2,List.take_append_drop]
def A7s(a:List V)(k:Nat):∀ i∈Ah (a.drop k),i∈Ah a:=by
 intro i hi;have:=K2 (a.take k) (a.drop k)
 simp_all
theorem Aez{σ σ':St}{m e bytes:Nat}{u u' y:V}{ys:List (List V)}(ha:Dx bytes (m,e) u y σ=some (u',σ'))(hy:E5 σ m y=some ys)(hr:∀ r∈ys,r.all V.rowB=true)(hu:u=.nils\/∃ i g len,u=.sl i g 0 len m true):(∀ j∈u'.refs,j∈u.refs\/σ.length<=j)/\(Cl σ->Cl σ'):=by
 have hf:Ah ys.flatten=[]:=F0 (Hk hr);unfold Dx at ha;simp only[hy,C5]at ha;unfold Jm at ha
 split at ha
 .rcases hu with rfl | ⟨i,g,len,rfl⟩
  .grind[V.refs,Mk,Ob.refs]
  .simp only at ha
   split at ha
   .split at ha
    .rename_i cs e' g' z ho;have hi:=(An.1 ho).1;have hm:=Hg ho
     split at ha
     .split at ha
      .grind
      .split at ha
       .split at ha
        .cases ha;refine⟨fun j hj=>.inl hj,fun hc=>F4 hc fun j hj=>?_⟩;simp only[Ob.refs,K2,hf,Bz,Cs]at hj;rcases hj with hj | hj
         .exact hc _ hm j (A7r _ _ _ hj)
         .exact hc _ hm j (A7s _ _ _ hj)
        .split at ha
         .cases ha;refine⟨fun j hj=>.inl hj,fun hc=>F4 hc fun j hj=>?_⟩;simp only[Ob.refs,K2,hf,Bz]at hj;exact hc _ hm j hj
         grind
       grind
     grind
    grind
   grind
 grind
theorem Ai2{σ:St}{m e lo:Nat}{u:V}{xs:List (List V)}(h:GW σ m e lo u xs):u=.nils\/∃ i g len,u=.sl i g 0 len m true:=by
 rcases h with⟨rfl,-⟩ | ⟨hn,i,g,rfl,-⟩
 .grind
 grind
def Ml{σ:St}{m e lo bytes:Nat}{u y:V}{xs ys:List (List V)}(h:GW σ m e lo u xs)(jG:lo<=σ.length)(hy:E5 σ m y=some ys)(hm:0<m)(hl:∀ r∈xs,r.length=m)(jZ:∀ r∈ys,r.length=m)(hr:∀ r∈ys,r.all V.rowB=true)(hb:(xs.length+ys.length)*bytes<=140737488355328):
  ∃ u' σ',Dx bytes (m,e) u y σ=some (u',σ')/\GW σ' m e lo u' (xs++ys)/\σ.length<=σ'.length/\(∀ j,j<σ.length->j ∉ u.refs->σ'[j]?=σ[j]?)/\(∀ j∈u'.refs,j∈u.refs\/σ.length<=j)/\(Cl σ->Cl σ'):=by
 grind[Iz,Aez,Ai2,V.refs]
def Ap6{σ:St}{lo e:Nat}{u loc:V}{B:List Sp}(h:GW σ 11 e lo u (B.map Sp.row))(hb:loc.rowB=true)(nm:List UInt8)(ln:Int):
  ∃ σ',Pr 4 1 σ [.str nm,iV ln,loc,u]=some (.lst 1 [[.str nm,iV ln,loc,SL true 0 (B.map Sp.row)]],σ')/\σ'.length=σ.length/\(∀ j,j ∉ u.refs->σ'[j]?=σ[j]?)/\(Cl σ->Cl σ'):=by
 have hl:∀ r∈B.map Sp.row,r.length=11:=fun r hr=>by obtain⟨x,-,rfl⟩:=Di.1 hr;simp[N5]
 have hs:∀ r∈B.map Sp.row,r.all V.rowB=true:=fun r hr=>by obtain⟨x,-,rfl⟩:=Di.1 hr;exact He x
 have jJ:=J3 h AA hl hs;have hr:Ah [V.str nm,iV ln,loc,u]=u.refs:=by simp[Ah,V.refs,Qk hb]
 have jK:=jJ (Fy σ 9 u.refs.eraseDups) (fun i hi=>Mh σ 9 _ i (O9.2 hi)) 7;have hi:∀ v:V,v.rowB=true->Fg σ (Fy σ 9 u.refs.eraseDups) 9 v=some v:=fun v hv=>Tl hv
 unfold Pr;rw[hr];simp only[Jv,Abz,hi (.str nm) rfl,hi (iV ln) rfl,hi loc hb,jK];refine⟨_,rfl,Qj _ _,fun j hj=>Wu _ _ _ fun hm=>?_,W6 _ _⟩;rcases h with⟨rfl,-⟩ | ⟨hn,i,g,rfl,ho,qz⟩
 .grind[V.refs,Fy]
 .have:Fy σ 9 (V.refs (.sl i g 0 (B.map Sp.row).length 11 true)).eraseDups=[i]:=by
   have e1:(V.refs (.sl i g 0 (B.map Sp.row).length 11 true)).eraseDups=[i]:=by simp[V.refs,List.eraseDups_cons]
   rw[e1];have hx:Ah (B.map Sp.row).flatten=[]:=F0 (Hk hs);simp[Fy,ho,Ob.refs,hx]
  grind[V.refs]
structure PW (s:St) (u2:V) (L:List Tp):Prop where
 hk:∃ uH,MKr s 2 1 uH []
 l5:5<=s.length
 z:s[0]?=some (.row [.nils,.nils] 34 0 0)
 d:s[3]?=some (.row (declsL.map Dp.row).flatten 82 0 0)
 p:s[4]?=some (.row [.sl 3 0 0 9 6 true,u2] 34 0 0)
 n0:0 ∉ fp s 2
 n3:3 ∉ fp s 2
 n4:4 ∉ fp s 2
 g:GW s 4 86 5 u2 (L.map Tp.row)
 gn:∀ j∈u2.refs,j ∉ fp s 2
theorem Afv{s s':St}{u2 uH:V}{L:List Tp}(h:PW s u2 L)(hk:MKr s' 2 1 uH [])(w:FW 2 s s'):PW s' u2 L:=by
 obtain⟨z,n0⟩:=Jc w h.z h.n0;obtain⟨d,n3⟩:=Jc w h.d h.n3;obtain⟨p,n4⟩:=Jc w h.p h.n4;refine⟨⟨_,hk⟩,Dd h.l5 w.1,z,d,p,n0,n3,n4,Gt h.g fun i hi=>w.2.1 i (C8 h.g i hi).2 (h.gn i hi),fun j hj hm=>?_⟩;rcases w.2.2 j hm with h2 | h2
 .exact h.gn j hj h2
 .have:=(C8 h.g j hj).2;omega
def Aaa{s:St}{u2:V}{L:List Tp}(h:PW s u2 L):∃ (th left:Int) (se tx ao lp:Bool) (uH:V),s[2]?=some (mO 1 th left se tx ao lp uH) /\
  ∀ (th left:Int) (se tx ao lp:Bool),PW (s.set 2 (mO 1 th left se tx ao lp uH)) u2 L:=by
 obtain⟨uH,hk⟩:=h.hk;obtain⟨th,left,se,tx,ao,lp,hr⟩:=hk.row;refine⟨th,left,se,tx,ao,lp,uH,hr,fun th left se tx ao lp=>?_⟩;obtain⟨h1,h2⟩:=Awy hk th left se tx ao lp
 grind[Afv]
structure TH (s0 s:St) (nm:List UInt8) (u2:V) (L:List Tp) (uB:V) (B:List Sp):Prop where
 pw:PW s u2 L
 c5:5<=s0.length
 r:s[s0.length]?=some (.row [.str nm,iV 0,.lst 1 [[.str [97]],[.str [98]]],uB] 86 0 0)
 n:s0.length ∉ fp s 2
 g:GW s 11 100 (s0.length+1) uB (B.map Sp.row)
 gn:∀ j∈uB.refs,j ∉ fp s 2
 u2l:∀ j∈u2.refs,j<s0.length
def Bhb{s:St}{u2:V}{L:List Tp}(h:PW s u2 L)(nm:List UInt8):TH s (s++[.row [.str nm,iV 0,.lst 1 [[.str [97]],[.str [98]]],.nils] 86 0 0]) nm u2 L .nils []:=by
 obtain⟨uH,hk⟩:=h.hk;obtain⟨h1,h2⟩:=Ad1 hk [.row [.str nm,iV 0,.lst 1 [[.str [97]],[.str [98]]],.nils] 86 0 0] (Jf hk.cl rfl);refine⟨Afv h h1 h2,h.l5,by simp,fun hm=>?_,Dr,by simp[V.refs],fun j hj=>(C8 h.g j hj).2⟩;rw[H7 h1,<-H7 hk]at hm;exact Aet (τ:=s) hk (Am _) hm
def Al3{s0 s s':St}{nm:List UInt8}{u2 uB uH:V}{L:List Tp}{B:List Sp}(h:TH s0 s nm u2 L uB B)(hk:MKr s' 2 1 uH [])(w:FW 2 s s'):TH s0 s' nm u2 L uB B:=by
 obtain⟨r,n⟩:=Jc w h.r h.n;refine⟨Afv h.pw hk w,h.c5,r,n,Gt h.g fun i hi=>w.2.1 i (C8 h.g i hi).2 (h.gn i hi),fun j hj hm=>?_,h.u2l⟩;rcases w.2.2 j hm with h2 | h2
 .exact h.gn j hj h2
 .have:=(C8 h.g j hj).2;omega
def Ayk{s0 s:St}{nm:List UInt8}{u2 uB:V}{L:List Tp}{B:List Sp}(h:TH s0 s nm u2 L uB B):s0.length<s.length:=(An.1 h.r).1
def Tz(B:List Sp):∀ r∈B.map Sp.row,r.length=11:=fun r hr=>by obtain⟨x,-,rfl⟩:=Di.1 hr;simp[N5]
def Ai3(B:List Sp):∀ r∈B.map Sp.row,r.all V.rowB=true:=fun r hr=>by obtain⟨x,-,rfl⟩:=Di.1 hr;exact He x
def Ak1{s0 s:St}{nm:List UInt8}{u2 uB y:V}{L:List Tp}{B C:List Sp}(h:TH s0 s nm u2 L uB B)(hy:E5 s 11 y=some (C.map Sp.row))(hb:B.length+C.length<=1000000):
  ∃ qj s',Dx 176 (11,100) uB y s=some (qj,s')/\(qj.cells=[qj]/\[qj].all V.cellB=true/\qj.cellB=true)/\s'[s0.length]?=some (.row [.str nm,iV 0,.lst 1 [[.str [97]],[.str [98]]],uB] 86 0 0)/\s'[2]?=s[2]? /\
   TH s0 (s'.set s0.length (.row [.str nm,iV 0,.lst 1 [[.str [97]],[.str [98]]],qj] 86 0 0)) nm u2 L qj (B++C):=by
 obtain⟨uH,hk⟩:=h.pw.hk;have hl:=Ayk h;obtain⟨qj,s',e1,g,qr,hB,hr,hc⟩:=Ml (bytes:=176) h.g hl hy AA (Tz B) (Tz C) (Ai3 C) (by grind);have hf:=H7 hk
 have qZ:∀ j∈fp s 2,j<s.length:=fun j hj=>by
  rw[hf]at hj;simp only[B7]at hj;rcases hj with rfl | rfl | hj
  .grind[Lt]
  .exact Ov hk.tape
  .exact C0 hk.h j hj
 have kp:∀ j∈fp s 2,s'[j]?=s[j]?:=fun j hj=>hB j (qZ j hj) fun e=>h.gn j e hj
 have k2:s'[2]?=s[2]?:=kp 2 (by grind);have qF:∀ j,j<=s0.length->s'[j]?=s[j]?:=fun j hj=>hB j AA fun e=>by have:=(C8 h.g j e).1;omega
 have hn:=h.n;have c5:=h.c5;have qe:∀ j,j≠s0.length->(s'.set s0.length (.row [.str nm,iV 0,.lst 1 [[.str [97]],[.str [98]]],qj] 86 0 0))[j]?=s'[j]?:=fun j hj=>B4 (Ne.symm hj)
 have ks:∀ j∈fp s 2,(s'.set s0.length (.row [.str nm,iV 0,.lst 1 [[.str [97]],[.str [98]]],qj] 86 0 0))[j]?=s[j]?:=fun j hj=>(qe j fun(e:j=s0.length)=>hn (by grind)).trans (kp j hj)
 have qw:fp (s'.set s0.length (.row [.str nm,iV 0,.lst 1 [[.str [97]],[.str [98]]],qj] 86 0 0)) 2=fp s 2:=by
  unfold fp;rw[ks 2 (by grind)]
 have qX:Cl (s'.set s0.length (.row [.str nm,iV 0,.lst 1 [[.str [97]],[.str [98]]],qj] 86 0 0)):=F4 (hc hk.cl) fun j hj=>by
  simp only[Ob.refs,Ah,V.refs,Ct,Bz]at hj;exact(C8 g j hj).2
 have qV:∀ j∈u2.refs,j≠s0.length/\j ∉ uB.refs:=fun j hj=>by
  have:=h.u2l j hj;exact⟨by omega,fun e=>by have:=(C8 h.g j e).1;omega⟩
 have qt:TS (s'.set s0.length (.row [.str nm,iV 0,.lst 1 [[.str [97]],[.str [98]]],qj] 86 0 0)) 1:=by
  obtain⟨z,t,l,a,h1,h2⟩:=hk.tape;exact⟨z,t,l,a,by grind,h2⟩
 have qf:=h.pw;refine⟨qj,s',e1,⟨(Jd (B8 g)).1,(Jd (B8 g)).2,B8 g⟩,(qF _ (Am _)).trans h.r,k2,⟨⟨uH,Qx hk qX (ks 2 (by grind)) qt fun i hi=>ks i (by grind)⟩,by grind,?_,?_,?_,by rw[qw];exact qf.n0,by rw[qw];exact qf.n3,by rw[qw];exact qf.n4,?_,by rw[qw];exact qf.gn⟩,c5,Cf AA,by grind,?_,?_,h.u2l⟩
 .rw[qe 0 AA,qF 0 AA];exact qf.z
 .rw[qe 3 AA,qF 3 AA];exact qf.d
 .rw[qe 4 AA,qF 4 AA];exact qf.p
 .exact Gt qf.g fun i hi=>by rw[qe i (qV i hi).1,hB i (C8 qf.g i hi).2 (qV i hi).2]
 .rw[Fm];exact Gt g fun i hi=>qe i (by have:=(C8 g i hi).1;omega)
 .intro j hj;rw[qw];rcases hr j hj with h3 | h3
  .exact h.gn j h3
  grind
def Bhc{s0 s:St}{nm:List UInt8}{u2 uB:V}{L:List Tp}{B:List Sp}(h:TH s0 s nm u2 L uB B)(hL:L.length<=1000000):
  ∃ s1 u' s2,Pr 4 1 s [.str nm,iV 0,.lst 1 [[.str [97]],[.str [98]]],uB]=some (.lst 1 [[.str nm,iV 0,.lst 1 [[.str [97]],[.str [98]]],SL true 0 (B.map Sp.row)]],s1) /\
   Dx 72 (4,86) u2 (.lst 1 [[.str nm,iV 0,.lst 1 [[.str [97]],[.str [98]]],SL true 0 (B.map Sp.row)]]) s1=some (u',s2)/\(u'.cells=[u']/\[u'].all V.cellB=true/\u'.cellB=true)/\s2[4]?=some (.row [.sl 3 0 0 9 6 true,u2] 34 0 0) /\
   PW (s2.set 4 (.row [.sl 3 0 0 9 6 true,u'] 34 0 0)) u' (L++[⟨nm,0,true,1,[[97],[98]],true,0,B⟩]):=by
 obtain⟨uH,hk⟩:=h.pw.hk;have hl:=Ayk h;have c5:=h.c5;have qf:=h.pw;obtain⟨s1,e1,l1,f1,c1⟩:=Ap6 h.g (loc:=.lst 1 [[.str [97]],[.str [98]]]) rfl nm 0;have hx:Tp.row ⟨nm,0,true,1,[[97],[98]],true,0,B⟩=[.str nm,iV 0,.lst 1 [[.str [97]],[.str [98]]],SL true 0 (B.map Sp.row)]:=rfl
 have qV:∀ j∈u2.refs,j ∉ uB.refs:=fun j hj e=>by
  have:=h.u2l j hj;have:=(C8 h.g j e).1;omega
 have g1:GW s1 4 86 5 u2 (L.map Tp.row):=Gt qf.g fun i hi=>f1 i (qV i hi)
 obtain⟨u',s2,e2,g2,qr,hB,hr,hc⟩:=Ml (bytes:=72) (y:=.lst 1 [Tp.row ⟨nm,0,true,1,[[97],[98]],true,0,B⟩]) (ys:=[Tp.row ⟨nm,0,true,1,[[97],[98]],true,0,B⟩]) g1 AA rfl AA (Tt L) (by simp;rfl) (fun r hr=>by rw[Hh.1 hr,hx];simp only[B5,Dc,Hq];rfl) (by grind);have hf:=H7 hk
 have qZ:∀ j∈fp s 2,j<s.length:=fun j hj=>by
  rw[hf]at hj;simp only[B7]at hj;rcases hj with rfl | rfl | hj
  .omega
  .omega
  .exact C0 hk.h j hj
 have k0:∀ j,j<s.length->j ∉ uB.refs->j ∉ u2.refs->s2[j]?=s[j]?:=fun j hj h1 h2=>by grind
 have kp:∀ j∈fp s 2,s2[j]?=s[j]?:=fun j hj=>k0 j (qZ j hj) (fun e=>h.gn j e hj) fun e=>qf.gn j e hj
 have qF:∀ j,j<5->s2[j]?=s[j]?:=fun j hj=>k0 j AA (fun e=>by have:=(C8 h.g j e).1;omega) fun e=>by have:=(C8 qf.g j e).1;omega
 have qe:∀ j,j≠4->(s2.set 4 (.row [.sl 3 0 0 9 6 true,u'] 34 0 0))[j]?=s2[j]?:=fun j hj=>B4 (Ne.symm hj)
 have ks:∀ j∈fp s 2,(s2.set 4 (.row [.sl 3 0 0 9 6 true,u'] 34 0 0))[j]?=s[j]?:=fun j hj=>(qe j fun(e:j=4)=>qf.n4 (by grind)).trans (kp j hj)
 have qw:fp (s2.set 4 (.row [.sl 3 0 0 9 6 true,u'] 34 0 0)) 2=fp s 2:=by
  unfold fp;rw[ks 2 (by grind)]
 have h5:5<=s2.length:=by have:=qf.l5;omega
 have qX:Cl (s2.set 4 (.row [.sl 3 0 0 9 6 true,u'] 34 0 0)):=F4 (hc (c1 hk.cl)) fun j hj=>by
  simp only[Ob.refs,Ah,V.refs,Bz,Cs,Hh]at hj;rcases hj with rfl | hj
  .omega
  .exact(C8 g2 j hj).2
 have qt:TS (s2.set 4 (.row [.sl 3 0 0 9 6 true,u'] 34 0 0)) 1:=by
  obtain⟨z,t,l,a,h1,h2⟩:=hk.tape;exact⟨z,t,l,a,by grind,h2⟩
 refine⟨s1,u',s2,e1,by grind,⟨(Jd (B8 g2)).1,(Jd (B8 g2)).2,B8 g2⟩,(qF 4 AA).trans qf.p,⟨⟨uH,Qx hk qX (ks 2 (by grind)) qt fun i hi=>ks i (by grind)⟩,by grind,?_,?_,Cf AA,by rw[qw];exact qf.n0,by rw[qw];exact qf.n3,by rw[qw];exact qf.n4,?_,?_⟩⟩
 .rw[qe 0 AA,qF 0 AA];exact qf.z
 .rw[qe 3 AA,qF 3 AA];exact qf.d
 .rw[Fm];exact Gt g2 fun i hi=>qe i (by have:=(C8 g2 i hi).1;omega)
 .intro j hj;rw[qw];rcases hr j hj with h3 | h3
  .exact qf.gn j h3
  grind
def Asp(X:List (List UInt8)):∀ r∈X.map fun x=>[V.str x],r.length=1:=fun r hr=>by grind
def Asq(X:List (List UInt8)):∀ r∈X.map fun x=>[V.str x],r.all V.rowB=true:=fun r hr=>by obtain⟨x,-,rfl⟩:=Di.1 hr;rfl
structure GL (lo:Nat) (σ τ:St) (u v:V) (X:List (List UInt8)):Prop where
 len:σ.length<=τ.length
 g:GW τ 1 9 lo v (X.map fun x=>[V.str x])
 kp:∀ j,j<σ.length->j ∉ u.refs->τ[j]?=σ[j]?
 rf:∀ j∈v.refs,j∈u.refs\/σ.length<=j
 cl:Cl τ
def Au3{lo:Nat}{σ:St}{u:V}{X:List (List UInt8)}(h:GW σ 1 9 lo u (X.map fun x=>[V.str x]))(hc:Cl σ):GL lo σ σ u u X:=⟨Am _,h,fun _ _ _=>rfl,fun _ hj=>.inl hj,hc⟩
def Y4{lo:Nat}{σ τ υ:St}{u v w:V}{X Y:List (List UInt8)}(h:GL lo σ τ u v X)(h':GL lo τ υ v w Y):GL lo σ υ u w Y:=by
 refine⟨Dd h.len h'.len,h'.g,fun j hj hn=>?_,fun j hj=>?_,h'.cl⟩
 .rw[h'.kp j (by have:=h.len;omega) fun e=>?_,h.kp j hj hn];rcases h.rf j e with h2 | h2
  .grind
  .omega
 .rcases h'.rf j hj with h2 | h2
  .exact h.rf j h2
  .exact .inr (by have:=h.len;omega)
def Au4{lo:Nat}{σ τ:St}{u v:V}{X:List (List UInt8)}(h:GL lo σ τ u v X)(l:St)(hc:Cl (τ++l)):GL lo σ (τ++l) u v X:=
 ⟨by rw[Aj];have:=h.len;omega,Ix h.g,fun j hj hn=>by rw[Ex (by have:=h.len;omega)];exact h.kp j hj hn,h.rf,hc⟩
def Aw5{lo:Nat}{σ τ:St}{u v:V}{X:List (List UInt8)}(h:GL lo σ τ u v X)(qz:lo<=σ.length)(s:List UInt8)(hb:X.length<=1000000000):∃ v' τ',Dx 16 (1,9) v (.lst 1 [[.str s]]) τ=some (v',τ')/\v'.cellB=true/\GL lo σ τ' u v' (X++[s])/\∀ j,j<τ.length->j ∉ v.refs->τ'[j]?=τ[j]?:=by
 obtain⟨v',τ',h1,h2,h3,h4,h5,h6⟩:=Ml (bytes:=16) (y:=.lst 1 [[.str s]]) (ys:=[[.str s]]) h.g (by have:=h.len;omega) rfl AA (Asp X) AE AN (by grind);refine⟨v',τ',h1,B8 h2,Y4 h ⟨h3,by grind,h4,h5,h6 h.cl⟩,h4⟩
def Ns(f:Nat)(l:List Sp):Prop:=∀ (lo:Nat) (σ:St) (u:V) (X:List (List UInt8)) (z:Bool) (t:Nat),GW σ 1 9 lo u (X.map fun x=>[V.str x])->lo<=σ.length->Cl σ->X.length+Sp.szs l<=1000000000 ->
  ∃ v τ,Bw TT PT f [u,SL z t (l.map Sp.row)] σ v τ/\GL lo σ τ u v (X++Sp.hdss l)
structure TxL (l:List Sp):Prop where
 sh:∀ x∈l,ShS x
 len:(Sp.txts 0 l).length<=2000000000
def Ajz{l:List Sp}(h:TxL l){x:Sp}(hx:x∈l):ShS x/\(x.txt 0).length<=2000000000/\TxL x.body/\TxL x.els:=by
 have h1:=h.sh x hx;have h2:=Yh 0 hx;have h3:=h.len;refine⟨h1,by omega,?_⟩
 cases h1 with
 | mk a1 a2 a3 a4 a5 a6 a7 a8 a9 a10 a11 a12 a13 a14=>
  cases hb:B6 x.op
  .have e1:x.body=[]:=a11 hb;have e2:x.els=[]:=a12 fun e=>by rw[e]at hb;cases hb
   rw[e1,e2];exact⟨⟨(fun x hx=>by cases hx),by simp[Sp.txts]⟩,⟨(fun x hx=>by cases hx),by simp[Sp.txts]⟩⟩
  .have:=Bbr hb;exact⟨⟨a13,by omega⟩,⟨a14,by omega⟩⟩
def Ap7{l:List Sp}{i:Nat}{y:Sp}(h:l.drop i=y::l.drop (i+1)):Sp.hdss (l.drop i)=Ee y::(Sp.hdss y.body++(Sp.hdss y.els++Sp.hdss (l.drop (i+1)))):=by
 grind[Sp.hdss,Awq]
def A7t(y:Sp):(I2 y).row=[iV y.op,iV y.line,.str y.nm,.str y.arg,SL y.iz y.it (y.idx.map Xp.row),iV y.ex.op,iV y.ex.n,.str y.ex.nm,SL y.ex.z y.ex.t (y.ex.l.map Xp.row),.nils,.nils]:=by
 rw[Fr];rfl
def Ae0:∀ l:List Sp,l.length<=Sp.szs l
 | []=>As _
 | x::l=>by
  have h1:=Ae0 l
  grind[Lh,Sp.szs]
set_option maxHeartbeats 4000000 in
def A7u{l:List Sp}(hl:TxL l)(ih:∀ x∈l,Ns 93 x.body/\Ns 93 x.els):Ns 93 l:=by
 intro lo σ u X z t hg qz hc hX;have qr:(l.map Sp.row).length=l.length:=Av ..;refine Adh T93 rfl ?_;simp only[go_sem,qr];refine Bb (α:=Nat × St × V × List (List UInt8)) (fun a=>l.length - a.1) (fun a=>[(0,a.2.2.1),(9,SL z t (l.map Sp.row)),(10,iV (l.length:Int)),(11,iV (a.1:Int))]) (fun a=>a.2.1) (fun a=>a.1<=l.length/\GL lo σ a.2.1 u a.2.2.1 a.2.2.2/\a.2.2.2++Sp.hdss (l.drop a.1)=X++Sp.hdss l) ?_ (0,σ,u,X) ⟨As _,Au3 hg hc,rfl⟩;rintro⟨i,s,v,Y⟩ ⟨hi,hG,hY⟩ jh;simp only at hi hG hY jh;have qW:=congrArg List.length hY;rw[Aj,Aj,Jb,Jb]at qW;have qq:=B8 hG.g;refine Ay Bl4 ?_;rcases Az i l.length with h' | h';rotate_left
 .rw[D4 h',Sp.hdss,Bz]at hY;subst hY;simp only[go_sem,Bj h'];exact⟨v,rfl,⟨by cases v<;>simp[V.cellB]at qq<;>rfl,fun j hj=>(C8 hG.g j hj).2⟩,⟨hG.len,hG.cl⟩,hG⟩
 obtain⟨y,hy,hd,hm⟩:=Bk h';obtain⟨qT,jN,jB,jC⟩:=Ajz hl hm;have jH:=Ae0 l;have qk:=Fr y;have qs:=He y;have hq:=Ar1 (Akr qT) 0 AA;obtain⟨r,hr⟩:=Amz y;have jl:=(ixU 10 (Ee y) r (Auk qT)).2;rw[<-hr]at jl;have jF:=Aul y
 have jW:Ta [.str (y.txt 0),.int .u8 10]=some (iV ((Ee y).length:Int)):=by
  show some (iV (Lib.indexByte (y.txt 0) 10))=_;rw[jl]
 obtain⟨s1,e1⟩:∃ s1:St,s1=s++[.row y.row 100 0 0]:=⟨_,rfl⟩;have k1:s1[s.length]?=some (.row y.row 100 0 0):=by rw[e1];simp
 have G1:GL lo σ s1 u v Y:=by rw[e1];exact Au4 hG _ (Jf hG.cl qs)
 have jQ:∀ j∈v.refs,j<s.length:=fun j hj=>(C8 hG.g j hj).2
 have qY:=Ap7 hd;rw[qY]at hY;have jM:Sp.szs (l.drop i)=y.sz+Sp.szs (l.drop (i+1)):=by rw[hd,Sp.szs]
 have jS:=Lh y;obtain⟨v2,s2,ha,jD,G2,jb⟩:=Aw5 G1 qz (Ee y) AA;have k2:s2[s.length]?=_:=(jb s.length (by grind) fun e=>by grind).trans k1
 have n2:s.length ∉ v2.refs:=fun e=>by
  have h9:∀ j∈v2.refs,j∈v.refs\/s1.length<=j:=by
   obtain⟨q1,-⟩:=Aez ha rfl AN (Ai2 G1.g);exact q1
  grind
 obtain⟨v3,s3,q3,G3⟩:=(ih y hm).1 lo s2 v2 (Y++[Ee y]) y.bz y.bt G2.g (by have:=G2.len;omega) G2.cl (by grind);have l2:s.length<s2.length:=(An.1 k2).1;have k3:s3[s.length]?=_:=(G3.kp s.length l2 n2).trans k2
 have n3:s.length ∉ v3.refs:=fun e=>by
  rcases G3.rf _ e with h8 | h8
  .grind
  .omega
 have l3:s.length<s3.length:=(An.1 k3).1;obtain⟨v4,s4,q4,G4⟩:=(ih y hm).2 lo s3 v3 (Y++[Ee y]++Sp.hdss y.body) y.ez y.et G3.g (by have:=G2.len;have:=G3.len;omega) G3.cl (by grind[Jb]);have G14:=Y4 G2 (Y4 G3 G4);rw[qk]at e1 k1 k2 k3 hq qs;have f0:(0<=((Ee y).length:Int))=True:=eq_true AA;have jy:((Ee y).length<=(y.txt 0).length)=True:=eq_true AA;have jz:(y.txt 0).take (Ee y).length=Ee y:=by rw[hr];simp
 rw[Int.natCast_zero]at hq;simp only[go_sem,Aq h',Ak,hy,qk];rw[<-e1];refine Ab hq AB ?_;simp only[go_sem];refine Fu P97 AB jW ?_;simp only[go_sem,ge_iff_le,f0,jy,jz,ha,k2];refine Aa q3 ?_;simp only[go_sem,k3];refine Aa q4 ?_;simp only[go_sem,Aw (show i<9223372036854775807 by omega)];refine Ai (jh (i+1,s4,v4,Y++[Ee y]++Sp.hdss y.body++Sp.hdss y.els) AA ⟨h',G14,by grind⟩) rfl
set_option maxHeartbeats 4000000 in
def A7v{l:List Sp}(hl:TxL l)(ih:∀ x∈l,Ns 76 x.body/\Ns 76 x.els):Ns 76 l:=by
 intro lo σ u X z t hg qz hc hX;have qr:(l.map Sp.row).length=l.length:=Av ..;refine Adh T76 rfl ?_;simp only[go_sem,qr];refine Bb (α:=Nat × St × V × List (List UInt8)) (fun a=>l.length - a.1) (fun a=>[(0,a.2.2.1),(11,SL z t (l.map Sp.row)),(12,iV (l.length:Int)),(13,iV (a.1:Int))]) (fun a=>a.2.1) (fun a=>a.1<=l.length/\GL lo σ a.2.1 u a.2.2.1 a.2.2.2/\a.2.2.2++Sp.hdss (l.drop a.1)=X++Sp.hdss l) ?_ (0,σ,u,X) ⟨As _,Au3 hg hc,rfl⟩;rintro⟨i,s,v,Y⟩ ⟨hi,hG,hY⟩ jh;simp only at hi hG hY jh;have qW:=congrArg List.length hY;rw[Aj,Aj,Jb,Jb]at qW;have qq:=B8 hG.g;refine Ay Bln ?_;rcases Az i l.length with h' | h';rotate_left
 .rw[D4 h',Sp.hdss,Bz]at hY;subst hY;simp only[go_sem,Bj h'];exact⟨v,rfl,⟨by cases v<;>simp[V.cellB]at qq<;>rfl,fun j hj=>(C8 hG.g j hj).2⟩,⟨hG.len,hG.cl⟩,hG⟩
 obtain⟨y,hy,hd,hm⟩:=Bk h';obtain⟨qT,jN,jB,jC⟩:=Ajz hl hm;have jH:=Ae0 l;have qk:=Fr y;have qs:=He y;have ji:=A7t y;have jj:=He (I2 y);obtain⟨⟨r,hr⟩,jY⟩:=A65 y;have jF:=Aul y;have hq:=A64 (Bbq (Akr qT)) 0 AA (by grind[Lh,I2,Sp.szs]);have jk:=Boh (c:=10) (r:=r) (Auk qT);rw[<-hr]at jk
 have jV:Aa2 [.str ((I2 y).txt 0),.str [10]]=some (.tup [.str (Ee y),.str r,.bool true]):=by
  show(if((I2 y).txt 0).length<4294967281 then some (V.tup [.str (Lib.cut ((I2 y).txt 0) [10]).1,.str (Lib.cut ((I2 y).txt 0) [10]).2.1,.bool (Lib.cut ((I2 y).txt 0) [10]).2.2]) else none)=_;rw[if_pos AA,jk]
 have c1:Cl (s++[.row y.row 100 0 0,.row (I2 y).row 100 0 0]):=by
  have:=Jf (t:=100) (Jf (t:=100) hG.cl qs) jj;simpa using this
 obtain⟨s1,e1⟩:∃ s1:St,s1=s++[.row y.row 100 0 0,.row (I2 y).row 100 0 0]:=⟨_,rfl⟩;have k1:s1[s.length]?=some (.row y.row 100 0 0):=by rw[e1];simp
 have l1:s1.length=s.length+2:=by rw[e1];simp
 have G1:GL lo σ s1 u v Y:=by rw[e1];exact Au4 hG _ c1
 have jQ:∀ j∈v.refs,j<s.length:=fun j hj=>(C8 hG.g j hj).2
 have qY:=Ap7 hd;rw[qY]at hY;have jM:Sp.szs (l.drop i)=y.sz+Sp.szs (l.drop (i+1)):=by rw[hd,Sp.szs]
 have jS:=Lh y;obtain⟨v2,s2,ha,jD,G2,jb⟩:=Aw5 G1 qz (Ee y) AA;have k2:s2[s.length]?=_:=(jb s.length AA fun e=>by grind).trans k1
 have n2:s.length ∉ v2.refs:=fun e=>by
  have h9:∀ j∈v2.refs,j∈v.refs\/s1.length<=j:=by
   obtain⟨q1,-⟩:=Aez ha rfl AN (Ai2 G1.g);exact q1
  grind
 obtain⟨v3,s3,q3,G3⟩:=(ih y hm).1 lo s2 v2 (Y++[Ee y]) y.bz y.bt G2.g (by have:=G2.len;omega) G2.cl (by grind);have l2:s.length<s2.length:=(An.1 k2).1;have k3:s3[s.length]?=_:=(G3.kp s.length l2 n2).trans k2;obtain⟨v4,s4,q4,G4⟩:=(ih y hm).2 lo s3 v3 (Y++[Ee y]++Sp.hdss y.body) y.ez y.et G3.g (by have:=G2.len;have:=G3.len;omega) G3.cl (by grind[Jb]);have G14:=Y4 G2 (Y4 G3 G4);rw[qk,ji]at e1;rw[qk]at k1 k2 k3 qs;rw[ji]at hq jj;rw[Int.natCast_zero]at hq;simp only[go_sem,Aq h',Ak,hy,qk];rw[<-e1];refine Ab hq AB ?_;simp only[go_sem];refine Fu P123 AB jV ?_;simp only[go_sem,ha,k2];refine Aa q3 ?_;simp only[go_sem,k3];refine Aa q4 ?_;simp only[go_sem,Aw (show i<9223372036854775807 by omega)];refine Ai (jh (i+1,s4,v4,Y++[Ee y]++Sp.hdss y.body++Sp.hdss y.els) AA ⟨h',G14,by grind⟩) rfl
def Ae1{f:Nat}(hs:∀ l,TxL l->(∀ x∈l,Ns f x.body/\Ns f x.els)->Ns f l):∀ (N:Nat) (l:List Sp),TxL l->Sp.szs l<=N->Ns f l
 | 0,l,h,hz=>hs l h fun x hx=>by
  have:=Zl hx
  grind[Lh]
 | N+1,l,h,hz=>hs l h fun x hx=>by
  obtain⟨-,-,h1,h2⟩:=Ajz h hx;have:=Zl hx;have:=Lh x;exact⟨Ae1 hs N _ h1 AA,Ae1 hs N _ h2 AA⟩
def Bhd{l:List Sp}(h:TxL l):Ns 93 l:=Ae1 (fun _=>A7u) _ l h (Am _)
def Bhe{l:List Sp}(h:TxL l):Ns 76 l:=Ae1 (fun _=>A7v) _ l h (Am _)
