/- Walks: the maker of programs: statements. Printed by gen_il.py. -/
import Derived.Test.YtdbnbejffjhdlaaGreatDoorHf
set_option linter.all false
namespace Go.Proofs.YtdbnbejffjhdlaaGreatDoor.KM
open Go
def H1{l:List UInt8}(h:(B0 l&&decide (l.length<=4))=true):Mg l:=by
 simp only[Ak,decide_eq_true_eq]at h;exact h
def G5(nm:List UInt8):Xp:=⟨2,0,nm,true,0,[]⟩
def Gn(n:Int):Xp:=⟨1,n,[],true,0,[]⟩
def M0(op:Int)(nm:List UInt8)(n:Int):Xp:=⟨op,0,[],true,1,[G5 nm,Gn n]⟩
def Az0(op:Int)(nm:List UInt8)(n:Int):Fn TT PT 117 [iV op,.agg [iV 2,iV 0,.str nm,.nils],.agg [iV 1,iV n,.str [],.nils]] (.agg [iV op,iV 0,.str [],.lst 1 [[iV 2,iV 0,.str nm,.nils],[iV 1,iV n,.str [],.nils]]]):=by
 have h:=Au9 op (G5 nm) (Gn n);rw[Bj ⟨op,0,[],true,1,[G5 nm,Gn n]⟩]at h;simp only[A2,Bz]at h;rw[Bj (G5 nm),Bj (Gn n)]at h;exact h
def Alh(op:Int)(nm:List UInt8)(n:Int):(M0 op nm n).l.map Xp.row=[[iV 2,iV 0,.str nm,.nils],[iV 1,iV n,.str [],.nils]]:=by
 unfold M0;simp only[A2,Bz];rw[Bj (G5 nm),Bj (Gn n)];rfl
def Bnl{nm:List UInt8}(h:Mg nm)(d:Nat):MX d (G5 nm):=by
 refine⟨.name h.1,?_,?_⟩
 .rw[show(G5 nm).txt=nm by unfold G5;rw[F3];rfl];have:=Af7 d;have:=h.2;omega
 .unfold G5;rw[Ha];have:=Afm d;have:=h.2;simp[Cz];omega
def Ayx{op:Int}(ho:6<=op/\op<=18):MX 1 (M0 op [98] 2)/\MX 1 (M0 op [98] 1):=by
 have jc:∀ n:Int,(n=1\/n=2)->MX 1 (M0 op [98] n):=by
  intro n hn;have hx:ShE (G5 [98]):=.name AD;have hy:ShE (Gn n):=.num AA;have t1:(G5 [98]).txt=[98]:=by unfold G5;rw[F3];rfl
  have t2:(Gn n).txt.length=1:=by
   rcases hn with rfl | rfl<;>(unfold Gn;rw[F3];rfl)
  refine⟨.bin ho hx hy,?_,?_⟩
  .unfold M0;rw[F3];have h2:=(Oq ((G5 [98]).op,(G5 [98]).txt) (Ii op)).2;have jm:=(Oq ((Gn n).op,(Gn n).txt) (Bu op+1)).2;simp only at h2 jm;have h3:(Cq op).length<=2:=Avb _
   have h0:Eh op 0 [] [((G5 [98]).op,(G5 [98]).txt),((Gn n).op,(Gn n).txt)]=Ec ((G5 [98]).op,(G5 [98]).txt) (Ii op)++32::(Cq op++32::Ec ((Gn n).op,(Gn n).txt) (Bu op+1)):=by
    unfold Eh;rw[if_neg AA,if_neg AA]
   have e1:EB 1=54:=rfl;have t3:(G5 [98]).txt.length=1:=by rw[t1];rfl
   simp only[A2,Bz,h0,Aq,Bg];omega
  .have x1:N2 1=36:=rfl;rw[Ha];unfold M0;simp only[A2,Bz,Cz,Dq];rw[Ha,Ha,x1];unfold G5 Gn;simp[Cz]
 exact⟨jc 2 (.inr rfl),jc 1 (.inl rfl)⟩
def M3(nm:List UInt8)(x:Xp):Sp:=⟨1,0,nm,[],true,0,[],x,true,0,[],true,0,[]⟩
def Afn(nm:List UInt8)(x:Xp):(M3 nm x).row=[iV 1,iV 0,.str nm,.str [],.nils,iV x.op,iV x.n,.str x.nm,SL x.z x.t (x.l.map Xp.row),.nils,.nils]:=by
 rw[Fq];rfl
def Ali{k:Nat}{nm:List UInt8}{x:Xp}(hn:Mg nm)(hx:MX 1 x)(z:Bool)(t:Nat)(z':Bool)(t':Nat):SM k ⟨1,0,nm,[],true,0,[],x,z,t,[],z',t',[]⟩:=
 Jq AE AE (fun h=>absurd rfl h) AE (.inl ⟨rfl,hx⟩) (.inr ⟨rfl,hn⟩) (.inl ⟨by simp,rfl⟩) (fun _=>rfl) (fun _=>rfl) (fun h=>by have h:false=true:=h;cases h)
def Amm{k:Nat}{nm:List UInt8}{x:Xp}(hn:Mg nm)(hx:MX 1 x):SM k (M3 nm x):=
 Jq (by simp[M3]) (by simp[M3]) (fun h=>absurd rfl h) (by simp[M3]) (.inl ⟨rfl,hx⟩) (.inr ⟨rfl,hn⟩) (.inl ⟨by simp[M3],rfl⟩) (fun _=>rfl) (fun _=>rfl) (fun h=>by have h:false=true:=h;cases h)
def M4(op:Int)(nm:List UInt8):Sp:=⟨op,0,nm,[],true,0,[],Xp.zero,true,0,[],true,0,[]⟩
def Xl(op:Int)(nm:List UInt8):(M4 op nm).row=(sZ op 0 nm []):=by
 rw[Fq];rfl
def Abb{k:Nat}{op:Int}{nm:List UInt8}(ho:op=9\/op=10\/op=11\/op=12\/op=13)(hn:Mg nm):SM k (M4 op nm):=by
 rcases ho with rfl | rfl | rfl | rfl | rfl
 all_goals exact Jq (by simp[M4]) (by simp[M4]) (fun _=>rfl) (by simp[M4]) (.inr ⟨rfl,rfl⟩) (.inr ⟨rfl,hn⟩) (.inl ⟨by simp[M4],rfl⟩) (fun _=>rfl) (fun _=>rfl) (fun h=>by have h:false=true:=h;cases h)
set_option maxRecDepth 20000 in
set_option maxHeartbeats 16000000 in
def Apc{k:Nat}(hk:k<=20)(ih:∀ j,j<k->MSs j):MSt k:=by
 intro σ m b uH H h hH;have jp:=Lg h
 suffices hh:∃ v σ',Th TT PT 74 [.ptr m 0 0,iV (k:Int)] σ v σ'/\((∃ x:Sp,v=.agg x.row/\SM k x)/\(∃ uH',MKr σ' m b uH' H)/\FW m σ σ') from hh
 refine A79 T74 rfl ?_;have e3:k≠0->IntKind.i64.wrap ((k:Int) - 1)=((k - 1:Nat):Int):=fun h0=>by rw[B7 AA];omega
 refine Ix (fun e s=>e=[(0,.ptr m 0 0),(1,iV (k:Int)),(4,.ptr σ.length 0 0)]/\MW σ s m b H) ?_ ?_
 .intro k' qb;simp only[go_sem];obtain⟨a1,a2⟩:=Aer h [sP 0 0 [] []] (Jj h.cl rfl);exact qb _ _ ⟨rfl,⟨_,a1⟩,a2,by simp,fun hm=>by rw[Ia a1,<-Ia h]at hm;exact Afk (τ:=σ) h (An _) hm,jp⟩
 clear h uH;rintro e s ⟨rfl,h1⟩;refine Ix (fun e s=>e=[(0,.ptr m 0 0),(1,iV (k:Int)),(4,.ptr σ.length 0 0)]/\MW σ s m b H) ?_ ?_
 .intro k' qb;obtain⟨th,left,se,tx,ao,lp,vH,m1,ho⟩:=J9 h1;simp only[go_sem,m1];exact qb _ _ ⟨rfl,(ho _ _ _ _ _ _).1⟩
 clear h1 s;rintro e s ⟨rfl,h1⟩;refine Ix (fun e s=>∃ r:Nat,r<18/\e=[(0,.ptr m 0 0),(1,iV (k:Int)),(4,.ptr σ.length 0 0),(5,iV (r:Int))]/\MW σ s m b H) ?_ ?_
 .intro k' qb;obtain⟨th,left,se,tx,ao,lp,vH,m1,-⟩:=J9 h1;obtain⟨r,s2,q,hr,h2,w2,mm⟩:=W6 h1 18;simp only[go_sem,m1];refine Aa q ?_;simp only[go_sem];exact qb _ _ ⟨r,by omega,rfl,h2⟩
 clear h1 s;rintro e s ⟨r,hr,rfl,h1⟩;refine Ix (fun e s=>∃ nb:Bool,(nb=true->k≠0)/\e=[(0,.ptr m 0 0),(1,iV (k:Int)),(4,.ptr σ.length 0 0),(5,iV (r:Int)),(6,.bool nb)]/\MW σ s m b H) ?_ ?_
 .intro k' qb;obtain⟨th,left,se,tx,ao,lp,vH,m1,-⟩:=J9 h1;by_cases qc:k=0
  .have f1:((0:Int)<(k:Int))=False:=eq_false AA;simp only[go_sem,gt_iff_lt,f1];exact qb _ _ ⟨false,(fun h=>by cases h),rfl,h1⟩
  have f1:((0:Int)<(k:Int))=True:=eq_true AA;by_cases hl:0<left
  .have f2:((0:Int)<left)=True:=eq_true hl;cases tx
   .simp only[go_sem,gt_iff_lt,f1,f2,m1,Bd];exact qb _ _ ⟨true,fun _=>qc,rfl,h1⟩
   .simp only[go_sem,gt_iff_lt,f1,f2,m1,Ba];exact qb _ _ ⟨false,(fun h=>by cases h),rfl,h1⟩
  .have f2:((0:Int)<left)=False:=eq_false hl;simp only[go_sem,gt_iff_lt,f1,f2,m1];exact qb _ _ ⟨false,(fun h=>by cases h),rfl,h1⟩
 clear h1 s;rintro e s ⟨nb,qy,rfl,h1⟩;have qH:H.length<=1000:=by omega
 refine Ix (fun e s=>e=[(0,.ptr m 0 0),(1,iV (k:Int)),(4,.ptr σ.length 0 0)]/\MW σ s m b H) ?_ ?_;rotate_left
 .clear h1 s;rintro e s ⟨rfl,h1⟩;obtain⟨x,s2,q2,hx,h2,w2,xs⟩:=Uz h1 1;simp only[go_sem];refine B8 q2 ?_;simp only[go_sem];refine Ab (Wb [120] x) AB ?_;simp only[go_sem,h2.z];exact Jk (op:=1) (line:=0) (nm:=[120]) (arg:=[]) (iz:=true) (it:=0) (idx:=[]) (ex:=x) (LB:=[]) (LE:=[]) h2 rfl (.inl ⟨true,0,rfl⟩) (.inl ⟨true,0,rfl⟩) AK fun _ _ _ _=>Ali (H1 AD) hx _ _ _ _
 intro k' qb;rcases(show r<4\/r=4\/r=5\/r=6\/r=7\/r=8\/r=9\/r=10\/r=11\/r=12\/r=13\/r=14\/r=15\/r=16\/r=17 by omega) with h4 | rfl | rfl | rfl | rfl | rfl | rfl | rfl | rfl | rfl | rfl | rfl | rfl | rfl | rfl
 .obtain⟨nm,hn,qV⟩:=Zg [[120],[121],[120],[118]] AD (j:=r) AJ;simp only[A2,Bz]at hn;have f1:((r:Int)<4)=True:=eq_true AA;obtain⟨x,s2,q2,hx,h2,w2,xs⟩:=Uz h1 1;simp only[go_sem,f1];refine Ad AD ?_;simp only[go_sem,hn];refine Id (Afl q2) ?_;simp only[go_sem];refine Ax (Wb nm x) (by simp only[go_sem,xs]) ?_;simp only[go_sem,h2.z];refine Be ?_;simp only[go_sem];exact Jk (op:=1) (line:=0) (nm:=nm) (arg:=[]) (iz:=true) (it:=0) (idx:=[]) (ex:=x) (LB:=[]) (LE:=[]) h2 rfl (.inl ⟨true,0,rfl⟩) (.inl ⟨true,0,rfl⟩) AK fun _ _ _ _=>Ali qV hx _ _ _ _
 .obtain⟨th,left,se,tx,ao,lp,vH,m1,-⟩:=J9 h1;obtain⟨j,s2,q2,hj,h2,w2,jC⟩:=W6 h1 2;obtain⟨nm,hn,qV⟩:=Zg [[97],[98]] AD (j:=j) AJ;simp only[A2,Bz]at hn;obtain⟨x,s3,q3,hx,h3,w3,xs⟩:=Uz h2 1;have jx:Bt TT PT 41 [.ptr b 0 0,iV 2] s (iV (j:Int)) s2:=q2;simp only[go_sem,C4,Int.reduceLT,Int.reduceBEq];refine Ad AD ?_;simp only[go_sem,m1];refine Id jx ?_;simp only[go_sem,hn];refine wgR ?_;simp only[go_sem];have jy:Th TT PT 116 [.ptr m 0 0,iV 1] s2 (.agg (xR x)) s3:=q3;refine Id (Afl jy) ?_;simp only[go_sem];refine Ax (Wb nm x) (by simp only[go_sem,xs]) ?_;simp only[go_sem,h3.z];refine Be ?_;simp only[go_sem];exact Jk (op:=1) (line:=0) (nm:=nm) (arg:=[]) (iz:=true) (it:=0) (idx:=[]) (ex:=x) (LB:=[]) (LE:=[]) h3 rfl (.inl ⟨true,0,rfl⟩) (.inl ⟨true,0,rfl⟩) AK fun _ _ _ _=>Ali qV hx _ _ _ _
 .obtain⟨y,s2,q2,hy,h2,w2,ys⟩:=Uz h1 0;obtain⟨x,s3,q3,hx,h3,w3,xs⟩:=Uz h2 1;have jw:=Bj y;simp only[go_sem,C4,Int.reduceLT,Int.reduceBEq];refine B8 q2 ?_;simp only[go_sem];refine B8 q3 ?_;simp only[go_sem,h3.z];exact Jk (op:=1) (line:=0) (nm:=[113]) (arg:=[]) (iz:=true) (it:=1) (idx:=[y]) (ex:=x) (LB:=[]) (LE:=[]) h3 rfl (.inl ⟨true,0,rfl⟩) (.inl ⟨true,0,rfl⟩) (by simp only[A2,Bz,jw];rfl) fun _ _ _ _=>Jq AE AE (fun h=>absurd rfl h) (by simp;exact hy) (.inl ⟨rfl,hx⟩) (.inr ⟨rfl,H1 AD⟩) (.inl ⟨by simp,rfl⟩) (fun _=>rfl) (fun _=>rfl) (fun h=>by have h:false=true:=h;cases h)
 .by_cases qc:k=0
  .have f1:((0:Int)<(k:Int))=False:=eq_false AA;simp only[go_sem,C4,Int.reduceLT,Int.reduceBEq,gt_iff_lt,f1];exact qb _ _ ⟨rfl,h1⟩
  have f1:((0:Int)<(k:Int))=True:=eq_true AA;have ek:=e3 qc;obtain⟨x,s2,q2,hx,h2,w2,xs⟩:=Uz h1 1;obtain⟨u3,L3,s3,q3,b3,⟨qr,qs,qm,r3⟩,⟨L31,L32⟩,h3,w3⟩:=Zi (ih (k - 1) AA) h2 AA 1;obtain⟨jb,jg,jf,qW,qY⟩:=Aes h3 (.row [iV 2,iV 0,.str [],.str [],.nils,iV x.op,iV x.n,.str x.nm,SL x.z x.t (x.l.map Xp.row),u3,.nils] 104 0 0) (by simp only[Ob.refs,Ah,Om,V.refs,Ci,Bw];exact fun i hi=>Ty (Cv b3.1 i hi));obtain⟨s4,ja⟩:∃ t,t=s3++[Ob.row [iV 2,iV 0,.str [],.str [],.nils,iV x.op,iV x.n,.str x.nm,SL x.z x.t (x.l.map Xp.row),u3,.nils] 104 0 0]:=⟨_,rfl⟩;rw[<-ja]at jb jg jf qW;have h4:=jb;have b4:=Rh b3 jg;obtain⟨th,left,se,tx,ao,lp,vH,m4,-⟩:=J9 h4;obtain⟨j,s5,q5,hj,h5,w5,jD⟩:=W6 h4 2;have b5:=Rh b4 w5;obtain⟨k5,n5⟩:=Jh w5 qW jf;simp only[go_sem,C4,Int.reduceLT,Int.reduceBEq,gt_iff_lt,f1];refine B8 q2 ?_;simp only[go_sem,ek];refine Aa q3 ?_;simp only[go_sem,qr,qs,qm];rw[<-ja];simp only[go_sem,m4];refine Aa q5 ?_;by_cases j1:j=1
  .subst j1;obtain⟨u6,L6,s6,q6,b6,⟨jj,jk,jl,r6⟩,⟨L61,L62⟩,h6,w6⟩:=Zi (ih (k - 1) AA) h5 AA 1;obtain⟨k6,n6⟩:=Jh w6 k5 n5;have qX:=Rh b5 w6;have jt:σ.length<s3.length:=Xx h3;have jn:s3.length<s6.length:=(Al.1 k6).1;have ju:s3.length ∉ u3.refs:=fun e=>by have:=Cv b3.1 _ e;omega
   have jv:s3.length ∉ u6.refs:=fun e=>by
    have:=r6 _ e;have:=w5.1;have:=(Al.1 qW).1;omega
   have h7:=Bhw h6 (.row [iV 2,iV 0,.str [],.str [],.nils,iV x.op,iV x.n,.str x.nm,SL x.z x.t (x.l.map Xp.row),u3,u6] 104 0 0) jt n6 (by
    simp only[Ob.refs,Ah,Om,V.refs,Ci,Bw];intro i hi;rcases Ch.1 hi with hi | hi
    .exact Cv qX.1 i hi
    .exact Cv b6.1 i hi)
   have k7:(s6.set s3.length (.row [iV 2,iV 0,.str [],.str [],.nils,iV x.op,iV x.n,.str x.nm,SL x.z x.t (x.l.map Xp.row),u3,u6] 104 0 0))[s3.length]?=some (.row [iV 2,iV 0,.str [],.str [],.nils,iV x.op,iV x.n,.str x.nm,SL x.z x.t (x.l.map Xp.row),u3,u6] 104 0 0):=Bv jn;have z7:=h7.z;have jh:=Axj (.row [iV 2,iV 0,.str [],.str [],.nils,iV x.op,iV x.n,.str x.nm,SL x.z x.t (x.l.map Xp.row),u3,u6] 104 0 0) qX ju qY;have ji:=Axj (.row [iV 2,iV 0,.str [],.str [],.nils,iV x.op,iV x.n,.str x.nm,SL x.z x.t (x.l.map Xp.row),u3,u6] 104 0 0) b6 jv qY;simp only[go_sem,C4,Int.reduceBEq,ek];refine Aa q6 ?_;simp only[go_sem,k6,jj,jk,jl,qm,k7,z7];exact Jk (op:=2) (line:=0) (nm:=[]) (arg:=[]) (iz:=true) (it:=0) (idx:=[]) (ex:=x) (LB:=L3) (LE:=L6) h7 rfl (.inr jh) (.inr ji) AK fun _ _ _ _=>Jq AE AE (fun _=>rfl) AE (.inl ⟨rfl,hx⟩) (.inl ⟨rfl,rfl⟩) (.inl ⟨by simp,rfl⟩) (fun h=>by have h:true=false:=h;cases h) (fun h=>absurd rfl h) (fun _=>⟨qc,⟨Dc L32 AA,L31⟩,⟨L62,L61⟩⟩)
  .have fj:((j:Int)==1)=false:=by simp;omega
   simp only[go_sem,fj,k5,h5.z,qm];exact Jk (op:=2) (line:=0) (nm:=[]) (arg:=[]) (iz:=true) (it:=0) (idx:=[]) (ex:=x) (LB:=L3) (LE:=[]) h5 rfl (.inr b5) (.inl ⟨true,0,rfl⟩) AK fun _ _ _ _=>Jq AE AE (fun _=>rfl) AE (.inl ⟨rfl,hx⟩) (.inl ⟨rfl,rfl⟩) (.inl ⟨by simp,rfl⟩) (fun h=>by have h:true=false:=h;cases h) (fun h=>absurd rfl h) (fun _=>⟨qc,⟨Dc L32 AA,L31⟩,⟨by simp,by simp⟩⟩)
 .by_cases qc:k=0
  .have f1:((0:Int)<(k:Int))=False:=eq_false AA;simp only[go_sem,C4,Int.reduceLT,Int.reduceBEq,gt_iff_lt,f1];exact qb _ _ ⟨rfl,h1⟩
  have f1:((0:Int)<(k:Int))=True:=eq_true AA;have ek:=e3 qc;obtain⟨qi,qa,ql,qn,qg,qk,qu,m1,qt⟩:=J9 h1;obtain⟨h2,w2⟩:=qt qi qa ql qn qg true;obtain⟨s2,qp⟩:∃ t,t=s.set m (mO b qi qa ql qn qg true qu):=⟨_,rfl⟩;rw[<-qp]at h2 w2;obtain⟨u3,L3,s3,q3,b3,⟨qr,qs,qm,r3⟩,⟨L31,L32⟩,h3,w3⟩:=Zi (ih (k - 1) AA) h2 AA 1;obtain⟨u4,s4,ha,b4,⟨qL,qM,qv⟩,h4⟩:=Bhx b3 h3 (M3 [98] (M0 6 [98] 1)) AA;rw[Afn,Alh]at ha;simp only[M0,SL,reduceCtorEq,and_false,true_and,if_false]at ha;have qK:=Wb [98] (M0 6 [98] 1);rw[Alh]at qK;simp only[M0,SL,reduceCtorEq,and_false,true_and,if_false]at qK;obtain⟨qz,qF,qC,qB,qZ⟩:=Aes h4 (.row [iV 3,iV 0,.str [],.str [],.nils,iV 13,iV 0,.str [],.lst 1 [[iV 2,iV 0,.str [98],.nils],[iV 1,iV 2,.str [],.nils]],u4,.nils] 104 0 0) (by simp only[Ob.refs,Ah,Om,V.refs,Ci,Bw];exact fun i hi=>Ty (Cv b4.1 i hi));obtain⟨s5,qw⟩:∃ t,t=s4++[Ob.row [iV 3,iV 0,.str [],.str [],.nils,iV 13,iV 0,.str [],.lst 1 [[iV 2,iV 0,.str [98],.nils],[iV 1,iV 2,.str [],.nils]],u4,.nils] 104 0 0]:=⟨_,rfl⟩;rw[<-qw]at qz qF qC qB;have h5:=qz;have b5:=Rh b4 qF;obtain⟨qE,qd,qD,qJ,qG,qI,qQ,m5,qP⟩:=J9 h5;obtain⟨h6,w6⟩:=qP qE qd qD qJ qG qk;obtain⟨s6,qx⟩:∃ t,t=s5.set m (mO b qE qd qD qJ qG qk qQ):=⟨_,rfl⟩;rw[<-qx]at h6 w6;have b6:=Rh b5 w6;obtain⟨k6,n6⟩:=Jh w6 qB qC;simp only[go_sem,C4,Int.reduceLT,Int.reduceBEq,gt_iff_lt,f1,m1];rw[<-qp];refine Ab (Aga _) AK ?_;simp only[go_sem];refine Ab (Agz _) AK ?_;simp only[go_sem];refine Ab (Az0 _ _ _) AK ?_;simp only[go_sem,ek];refine Aa q3 ?_;simp only[go_sem];refine Ab (Aga _) AK ?_;simp only[go_sem];refine Ab (Agz _) AK ?_;simp only[go_sem];refine Ab (Az0 _ _ _) AK ?_;simp only[go_sem];refine Ab qK AK ?_;simp only[go_sem,ha,qL,qM,qv];rw[<-qw];simp only[go_sem,m5];rw[<-qx];simp only[go_sem,k6,h6.z,qv]
  exact Jk (op:=3) (line:=0) (nm:=[]) (arg:=[]) (iz:=true) (it:=0) (idx:=[]) (ex:=M0 13 [98] 2) (LB:=(L3++[M3 [98] (M0 6 [98] 1)])) (LE:=[]) h6 rfl (.inr b6) (.inl ⟨true,0,rfl⟩) (by rw[Alh];rfl) fun _ _ _ _=>Jq AE AE (fun _=>rfl) AE (.inl ⟨rfl,(Ayx AA).1⟩) (.inl ⟨rfl,rfl⟩) (.inl ⟨by simp,rfl⟩) (fun h=>by have h:true=false:=h;cases h) (fun _=>rfl) (fun _=>⟨qc,⟨Dc (Nat.le_of_eq Aq) (by rw[Hi];omega),fun y hy=>(Ch.1 hy).elim (L31 y) fun hy=>by rw[D4.1 hy];exact Amm (H1 AD) (Ayx AA).2⟩,⟨by simp,by simp⟩⟩)
 .cases nb
  .simp only[go_sem,C4,Int.reduceLT,Int.reduceBEq];exact qb _ _ ⟨rfl,h1⟩
  have qc:=qy rfl;have ek:=e3 qc;obtain⟨z,qh⟩:=Wu h1 qH [109];simp only[go_sem,C4,Int.reduceLT,Int.reduceBEq,Int.reduceSub];refine B8 qh ?_;cases z;rotate_left
  .simp only[go_sem,C4,Int.reduceLT,Int.reduceBEq,Ba];exact qb _ _ ⟨rfl,h1⟩
  obtain⟨u3,L3,s3,q3,b3,⟨qr,qs,qm,r3⟩,⟨L31,L32⟩,h3,w3⟩:=Adu (Ada (ih (k - 1) AA)) h1 AA [109];simp only[go_sem,C4,Int.reduceLT,Int.reduceBEq,Int.reduceSub,Bd,ek];refine Aa q3 ?_;simp only[go_sem,qr,qs,qm,h3.z];exact Jk (op:=4) (line:=0) (nm:=[109]) (arg:=[]) (iz:=true) (it:=0) (idx:=[]) (ex:=Xp.zero) (LB:=L3) (LE:=[]) h3 rfl (.inr b3) (.inl ⟨true,0,rfl⟩) AK fun _ _ _ _=>Jq AE AE (fun _=>rfl) AE (.inr ⟨rfl,rfl⟩) (.inr ⟨rfl,H1 AD⟩) (.inl ⟨by simp,rfl⟩) (fun h=>by have h:true=false:=h;cases h) (fun _=>rfl) (fun _=>⟨qc,⟨Dc L32 AA,L31⟩,⟨by simp,by simp⟩⟩)
 .cases nb
  .simp only[go_sem,C4,Int.reduceLT,Int.reduceBEq];exact qb _ _ ⟨rfl,h1⟩
  have qc:=qy rfl;have ek:=e3 qc;obtain⟨z,qh⟩:=Wu h1 qH [110];simp only[go_sem,C4,Int.reduceLT,Int.reduceBEq,Int.reduceSub];refine B8 qh ?_;cases z;rotate_left
  .simp only[go_sem,C4,Int.reduceLT,Int.reduceBEq,Ba];exact qb _ _ ⟨rfl,h1⟩
  obtain⟨u3,L3,s3,q3,b3,⟨qr,qs,qm,r3⟩,⟨L31,L32⟩,h3,w3⟩:=Adu (Ada (ih (k - 1) AA)) h1 AA [110];simp only[go_sem,C4,Int.reduceLT,Int.reduceBEq,Int.reduceSub,Bd,ek];refine Aa q3 ?_;simp only[go_sem,qr,qs,qm,h3.z];exact Jk (op:=4) (line:=0) (nm:=[110]) (arg:=[]) (iz:=true) (it:=0) (idx:=[]) (ex:=Xp.zero) (LB:=L3) (LE:=[]) h3 rfl (.inr b3) (.inl ⟨true,0,rfl⟩) AK fun _ _ _ _=>Jq AE AE (fun _=>rfl) AE (.inr ⟨rfl,rfl⟩) (.inr ⟨rfl,H1 AD⟩) (.inl ⟨by simp,rfl⟩) (fun h=>by have h:true=false:=h;cases h) (fun _=>rfl) (fun _=>⟨qc,⟨Dc L32 AA,L31⟩,⟨by simp,by simp⟩⟩)
 .cases nb
  .simp only[go_sem,C4,Int.reduceLT,Int.reduceBEq];exact qb _ _ ⟨rfl,h1⟩
  have qc:=qy rfl;have ek:=e3 qc;obtain⟨z,qh⟩:=Wu h1 qH [114];simp only[go_sem,C4,Int.reduceLT,Int.reduceBEq,Int.reduceSub];refine B8 qh ?_;cases z;rotate_left
  .simp only[go_sem,C4,Int.reduceLT,Int.reduceBEq,Ba];exact qb _ _ ⟨rfl,h1⟩
  obtain⟨u3,L3,s3,q3,b3,⟨qr,qs,qm,r3⟩,⟨L31,L32⟩,h3,w3⟩:=Adu (Ada (ih (k - 1) AA)) h1 AA [114];simp only[go_sem,C4,Int.reduceLT,Int.reduceBEq,Int.reduceSub,Int.reduceAdd,Bd,ek];refine Aa q3 ?_;simp only[go_sem,qr,qs,qm,h3.z];exact Jk (op:=5) (line:=0) (nm:=[114]) (arg:=[]) (iz:=true) (it:=0) (idx:=[]) (ex:=Xp.zero) (LB:=L3) (LE:=[]) h3 rfl (.inr b3) (.inl ⟨true,0,rfl⟩) AK fun _ _ _ _=>Jq AE AE (fun _=>rfl) AE (.inr ⟨rfl,rfl⟩) (.inr ⟨rfl,H1 AD⟩) (.inl ⟨by simp,rfl⟩) (fun h=>by have h:true=false:=h;cases h) (fun _=>rfl) (fun _=>⟨qc,⟨Dc L32 AA,L31⟩,⟨by simp,by simp⟩⟩)
 .cases nb
  .simp only[go_sem,C4,Int.reduceLT,Int.reduceBEq];exact qb _ _ ⟨rfl,h1⟩
  have qc:=qy rfl;have ek:=e3 qc;obtain⟨z,qh⟩:=Wu h1 qH [114];simp only[go_sem,C4,Int.reduceLT,Int.reduceBEq,Int.reduceSub];refine B8 qh ?_;cases z;rotate_left
  .simp only[go_sem,C4,Int.reduceLT,Int.reduceBEq,Ba];exact qb _ _ ⟨rfl,h1⟩
  obtain⟨u3,L3,s3,q3,b3,⟨qr,qs,qm,r3⟩,⟨L31,L32⟩,h3,w3⟩:=Adu (Ada (ih (k - 1) AA)) h1 AA [114];simp only[go_sem,C4,Int.reduceLT,Int.reduceBEq,Int.reduceSub,Int.reduceAdd,Bd,ek];refine Aa q3 ?_;simp only[go_sem,qr,qs,qm,h3.z];exact Jk (op:=6) (line:=0) (nm:=[114]) (arg:=[]) (iz:=true) (it:=0) (idx:=[]) (ex:=Xp.zero) (LB:=L3) (LE:=[]) h3 rfl (.inr b3) (.inl ⟨true,0,rfl⟩) AK fun _ _ _ _=>Jq AE AE (fun _=>rfl) AE (.inr ⟨rfl,rfl⟩) (.inr ⟨rfl,H1 AD⟩) (.inl ⟨by simp,rfl⟩) (fun h=>by have h:true=false:=h;cases h) (fun _=>rfl) (fun _=>⟨qc,⟨Dc L32 AA,L31⟩,⟨by simp,by simp⟩⟩)
 .cases nb
  .simp only[go_sem,C4,Int.reduceLT,Int.reduceBEq];exact qb _ _ ⟨rfl,h1⟩
  have qc:=qy rfl;have ek:=e3 qc;obtain⟨qi,qa,ql,qn,qg,qk,qu,m1,qt⟩:=J9 h1;obtain⟨h2,w2⟩:=qt qi qa ql true qg qk;obtain⟨s2,qp⟩:∃ t,t=s.set m (mO b qi qa ql true qg qk qu):=⟨_,rfl⟩;rw[<-qp]at h2 w2;obtain⟨jF,jd,jE,jG,jz,jB,jH,m2,-⟩:=J9 h2;obtain⟨j,s3,q3,hj,h3,w3,je⟩:=W6 h2 2;have ej:IntKind.i64.wrap (1+(j:Int))=((1+j:Nat):Int):=by rw[B7 AA];omega
  obtain⟨u4,L4,s4,q4,b4,⟨qL,qM,qv,r4⟩,⟨L41,L42⟩,h4,w4⟩:=Zi (ih 0 AA) h3 AA (1+j);obtain⟨qz,qF,qC,qB,qZ⟩:=Aes h4 (.row [iV 7,iV 0,.str [],.str [],.nils,iV 0,iV 0,.str [],.nils,u4,.nils] 104 0 0) (by simp only[Ob.refs,Ah,Om,V.refs,Ci,Bw];exact fun i hi=>Ty (Cv b4.1 i hi));obtain⟨s5,qw⟩:∃ t,t=s4++[Ob.row [iV 7,iV 0,.str [],.str [],.nils,iV 0,iV 0,.str [],.nils,u4,.nils] 104 0 0]:=⟨_,rfl⟩;rw[<-qw]at qz qF qC qB;have h5:=qz;have b5:=Rh b4 qF;obtain⟨qE,qd,qD,qJ,qG,qI,qQ,m5,qP⟩:=J9 h5;obtain⟨h6,w6⟩:=qP qE qd qD false qG qI;obtain⟨s6,qx⟩:∃ t,t=s5.set m (mO b qE qd qD false qG qI qQ):=⟨_,rfl⟩;rw[<-qx]at h6 w6;have b6:=Rh b5 w6;obtain⟨k6,n6⟩:=Jh w6 qB qC;simp only[go_sem,C4,Int.reduceLT,Int.reduceBEq,m1];rw[<-qp];simp only[go_sem,m2];refine Aa q3 ?_;simp only[go_sem,ej];refine Aa q4 ?_;simp only[go_sem,qL,qM,qv];rw[<-qw];simp only[go_sem,m5];rw[<-qx];simp only[go_sem,k6,h6.z,qv];exact Jk (op:=7) (line:=0) (nm:=[]) (arg:=[]) (iz:=true) (it:=0) (idx:=[]) (ex:=Xp.zero) (LB:=L4) (LE:=[]) h6 rfl (.inr b6) (.inl ⟨true,0,rfl⟩) AK fun _ _ _ _=>Jq AE AE (fun _=>rfl) AE (.inr ⟨rfl,rfl⟩) (.inl ⟨rfl,rfl⟩) (.inl ⟨by simp,rfl⟩) (fun h=>by have h:true=false:=h;cases h) (fun _=>rfl) (fun _=>⟨qc,⟨Dc L42 AA,fun y hy=>Bc2 (Av _) (L41 y hy)⟩,⟨by simp,by simp⟩⟩)
 .cases nb
  .simp only[go_sem,C4,Int.reduceLT,Int.reduceBEq];exact qb _ _ ⟨rfl,h1⟩
  have qc:=qy rfl;have ek:=e3 qc;obtain⟨qi,qa,ql,qn,qg,qk,qu,m1,qt⟩:=J9 h1;cases qg;rotate_left
  .simp only[go_sem,C4,Int.reduceLT,Int.reduceBEq,m1,Ba];exact qb _ _ ⟨rfl,h1⟩
  obtain⟨h2,w2⟩:=qt qi qa ql qn true qk;obtain⟨s2,qp⟩:∃ t,t=s.set m (mO b qi qa ql qn true qk qu):=⟨_,rfl⟩;rw[<-qp]at h2 w2;obtain⟨u4,L4,s4,q4,b4,⟨qL,qM,qv,r4⟩,⟨L41,L42⟩,h4,w4⟩:=Zi (ih (k - 1) AA) h2 AA 2;obtain⟨qz,qF,qC,qB,qZ⟩:=Aes h4 (.row [iV 8,iV 0,.str [],.str [],.nils,iV 0,iV 0,.str [],.nils,u4,.nils] 104 0 0) (by simp only[Ob.refs,Ah,Om,V.refs,Ci,Bw];exact fun i hi=>Ty (Cv b4.1 i hi));obtain⟨s5,qw⟩:∃ t,t=s4++[Ob.row [iV 8,iV 0,.str [],.str [],.nils,iV 0,iV 0,.str [],.nils,u4,.nils] 104 0 0]:=⟨_,rfl⟩;rw[<-qw]at qz qF qC qB;have h5:=qz;have b5:=Rh b4 qF;obtain⟨qE,qd,qD,qJ,qG,qI,qQ,m5,qP⟩:=J9 h5;obtain⟨h6,w6⟩:=qP qE qd qD qJ false qI;obtain⟨s6,qx⟩:∃ t,t=s5.set m (mO b qE qd qD qJ false qI qQ):=⟨_,rfl⟩;rw[<-qx]at h6 w6;have b6:=Rh b5 w6;obtain⟨k6,n6⟩:=Jh w6 qB qC;simp only[go_sem,C4,Int.reduceLT,Int.reduceBEq,m1,Bd];rw[<-qp];simp only[go_sem,ek];refine Aa q4 ?_;simp only[go_sem,qL,qM,qv];rw[<-qw];simp only[go_sem,m5];rw[<-qx];simp only[go_sem,k6,h6.z,qv];exact Jk (op:=8) (line:=0) (nm:=[]) (arg:=[]) (iz:=true) (it:=0) (idx:=[]) (ex:=Xp.zero) (LB:=L4) (LE:=[]) h6 rfl (.inr b6) (.inl ⟨true,0,rfl⟩) AK fun _ _ _ _=>Jq AE AE (fun _=>rfl) AE (.inr ⟨rfl,rfl⟩) (.inl ⟨rfl,rfl⟩) (.inl ⟨by simp,rfl⟩) (fun h=>by have h:true=false:=h;cases h) (fun _=>rfl) (fun _=>⟨qc,⟨Dc L42 AA,L41⟩,⟨by simp,by simp⟩⟩)
 .cases nb
  .simp only[go_sem,C4,Int.reduceLT,Int.reduceBEq];exact qb _ _ ⟨rfl,h1⟩
  have qc:=qy rfl;have ek:=e3 qc;obtain⟨qi,qa,ql,qn,qg,qk,qu,m1,qt⟩:=J9 h1;cases qg;rotate_left
  .simp only[go_sem,C4,Int.reduceLT,Int.reduceBEq,m1,Ba];exact qb _ _ ⟨rfl,h1⟩
  obtain⟨z,qh⟩:=Wu h1 qH [109];simp only[go_sem,C4,Int.reduceLT,Int.reduceBEq,m1,Bd];refine B8 qh ?_;cases z;rotate_left
  .simp only[go_sem,C4,Int.reduceLT,Int.reduceBEq,Ba];exact qb _ _ ⟨rfl,h1⟩
  have qK:=Wb [97] (G5 [120]);simp only[G5,SL,Bz,and_self,true_and,if_true]at qK;simp only[go_sem,Bd];refine Ab (Aga _) AK ?_;simp only[go_sem];refine Ab qK AK ?_;simp only[go_sem,h1.z];exact Jk (op:=4) (line:=0) (nm:=[109]) (arg:=[]) (iz:=true) (it:=0) (idx:=[]) (ex:=Xp.zero) (LB:=[M4 9 [99],M3 [97] (G5 [120])]) (LE:=[]) h1 rfl (.inl ⟨true,1,by simp only[A2,Bz,Xl,Afn];rfl⟩) (.inl ⟨true,0,rfl⟩) (by simp only[A2,Bz,Xl,Afn];rfl) fun _ _ _ _=>Jq AE AE (fun _=>rfl) AE (.inr ⟨rfl,rfl⟩) (.inr ⟨rfl,H1 AD⟩) (.inl ⟨by simp,rfl⟩) (fun h=>by have h:true=false:=h;cases h) (fun _=>rfl) (fun _=>⟨qc,⟨by simp,fun y hy=>by simp only[Bo,Of,or_false]at hy;rcases hy with rfl | rfl<;>first | exact Abb (.inl rfl) (H1 AD) | exact Amm (H1 AD) (Bnl (H1 AD) 1)⟩,⟨by simp,by simp⟩⟩)
 .cases nb
  .simp only[go_sem,C4,Int.reduceLT,Int.reduceBEq];exact qb _ _ ⟨rfl,h1⟩
  have qc:=qy rfl;have ek:=e3 qc;obtain⟨z,qh⟩:=Wu h1 qH [109];simp only[go_sem,C4,Int.reduceLT,Int.reduceBEq];refine B8 qh ?_;cases z;rotate_left
  .simp only[go_sem,C4,Int.reduceLT,Int.reduceBEq,Ba];exact qb _ _ ⟨rfl,h1⟩
  obtain⟨qi,qa,ql,qn,qg,qk,qu,m1,qt⟩:=J9 h1;obtain⟨j,s3,q3,hj,h3,w3,je⟩:=W6 h1 2;have ej:IntKind.i64.wrap (10+(j:Int))=10+(j:Int):=B7 AA;simp only[go_sem,Bd,m1];refine Aa q3 ?_;simp only[go_sem,ej,h3.z];exact Jk (op:=4) (line:=0) (nm:=[109]) (arg:=[]) (iz:=true) (it:=0) (idx:=[]) (ex:=Xp.zero) (LB:=[M4 (10+(j:Int)) [99]]) (LE:=[]) h3 rfl (.inl ⟨true,1,by simp only[A2,Bz,Xl];rfl⟩) (.inl ⟨true,0,rfl⟩) (by simp only[A2,Bz,Xl];rfl) fun _ _ _ _=>Jq AE AE (fun _=>rfl) AE (.inr ⟨rfl,rfl⟩) (.inr ⟨rfl,H1 AD⟩) (.inl ⟨by simp,rfl⟩) (fun h=>by have h:true=false:=h;cases h) (fun _=>rfl) (fun _=>⟨qc,⟨by simp,fun y hy=>by rw[D4.1 hy];exact Abb AA (H1 AD)⟩,⟨by simp,by simp⟩⟩)
 .obtain⟨qi,qa,ql,qn,qg,qk,qu,m1,qt⟩:=J9 h1;cases qn;rotate_left
  .simp only[go_sem,C4,Int.reduceLT,Int.reduceBEq,m1,Ba];exact qb _ _ ⟨rfl,h1⟩
  cases qk;rotate_left
  .simp only[go_sem,C4,Int.reduceLT,Int.reduceBEq,m1,Ba,Bd];exact qb _ _ ⟨rfl,h1⟩
  cases ql;rotate_left
  .simp only[go_sem,C4,Int.reduceLT,Int.reduceBEq,m1,Ba,Bd];exact qb _ _ ⟨rfl,h1⟩
  obtain⟨h2,w2⟩:=qt qi qa true false qg false;obtain⟨s2,qp⟩:∃ t,t=s.set m (mO b qi qa true false qg false qu):=⟨_,rfl⟩;rw[<-qp]at h2 w2;obtain⟨x,s3,q3,hx,h3,w3,xs⟩:=Uz h2 1;simp only[go_sem,C4,Int.reduceLT,Int.reduceBEq,m1,Bd];rw[<-qp];refine B8 q3 ?_;simp only[go_sem,h3.z];exact Jk (op:=14) (line:=0) (nm:=[102]) (arg:=[]) (iz:=true) (it:=0) (idx:=[]) (ex:=x) (LB:=[]) (LE:=[]) h3 rfl (.inl ⟨true,0,rfl⟩) (.inl ⟨true,0,rfl⟩) AK fun _ _ _ _=>Jq AE AE (fun _=>rfl) AE (.inl ⟨rfl,hx⟩) (.inr ⟨rfl,H1 AD⟩) (.inl ⟨by simp,rfl⟩) (fun _=>rfl) (fun _=>rfl) (fun h=>by have h:false=true:=h;cases h)
 .obtain⟨qi,qa,ql,qn,qg,qk,qu,m1,qt⟩:=J9 h1;cases qn;rotate_left
  .simp only[go_sem,C4,Int.reduceLT,Int.reduceBEq,m1,Ba];exact qb _ _ ⟨rfl,h1⟩
  obtain⟨j,s3,q3,hj,h3,w3,je⟩:=W6 h1 2;simp only[go_sem,C4,Int.reduceLT,Int.reduceBEq,m1,Bd];refine Aa q3 ?_;by_cases j1:j=1
  .subst j1;simp only[go_sem,C4,Int.reduceBEq,h3.z];exact Jk (op:=15) (line:=0) (nm:=[97]) (arg:=[102]) (iz:=true) (it:=0) (idx:=[]) (ex:=Xp.zero) (LB:=[]) (LE:=[]) h3 rfl (.inl ⟨true,0,rfl⟩) (.inl ⟨true,0,rfl⟩) AK fun _ _ _ _=>Jq AE AE (fun _=>rfl) AE (.inr ⟨rfl,rfl⟩) (.inr ⟨rfl,H1 AD⟩) (.inr ⟨rfl,H1 AD⟩) (fun _=>rfl) (fun _=>rfl) (fun h=>by have h:false=true:=h;cases h)
  .have fj:((j:Int)==1)=false:=by simp;omega
   simp only[go_sem,fj];exact qb _ _ ⟨rfl,h3⟩
def Aqj:∀ (K:Nat),K<=20->∀ k,k<=K->MSt k/\MSs k
 | 0,hK,k,hk=>by
  have h:=Apc (k:=k) AA fun j hj=>by omega
  exact⟨h,Aqi h⟩
 | K+1,hK,k,hk=>by
  have h:=Apc (k:=k) AA fun j hj=>(Aqj K AA j AA).2
  exact⟨h,Aqi h⟩
def Gu{σ τ:St}{m e lo:Nat}{u:V}{xs:List (List V)}(h:GW σ m e lo u xs)(hk:∀ i∈u.refs,τ[i]?=σ[i]?):GW τ m e lo u xs:=by
 rcases h with h | ⟨hn,i,g,h,ho,qO⟩
 .exact .inl h
 .exact .inr ⟨hn,i,g,h,by rw[hk i (by rw[h];simp[V.refs])];exact ho,qO⟩
def C1{σ:St}{m e lo:Nat}{u:V}{xs:List (List V)}(h:GW σ m e lo u xs):∀ i∈u.refs,lo<=i/\i<σ.length:=by
 intro j hj;rcases h with⟨rfl,-⟩ | ⟨hn,i,g,rfl,ho,qO⟩
 .simp[V.refs]at hj
 .simp[V.refs]at hj;subst hj;exact⟨qO,(Al.1 ho).1⟩
def Bhy{σ:St}{m e lo:Nat}{u:V}{xs:List (List V)}(h:GW σ m e lo u xs)(hl:∀ r∈xs,r.length=m):Eu σ m u=some xs:=by
 rcases h with⟨rfl,rfl⟩ | ⟨hn,i,g,rfl,ho,qO⟩
 .rfl
 .simp only[Eu,ho];rw[if_pos ⟨trivial,trivial,by rw[Ga hl];omega⟩,Jd,Ue hl]
def Bhz{σ:St}{m e:Nat}{u:V}{xs:List (List V)}(h:GS σ m e u xs):Eu σ m u=some xs:=by
 obtain⟨⟨hl,hr⟩,h⟩:=h;rcases h with⟨rfl,rfl⟩ | ⟨i,g,r,q,rfl,ho,hq,jA⟩
 .rfl
 .simp only[Eu,ho];rw[if_pos ⟨trivial,trivial,by rw[Aq,Ga hl];omega⟩,Jd,Ac5 m xs r hl]
def A8b(a:List V)(k:Nat):∀ i∈Ah (a.take k),i∈Ah a:=by
 intro i hi;have:=Hn (a.take k) (a.drop k);rw[Ja]at this;rw[this];exact Rw _ hi
def A8c(a:List V)(k:Nat):∀ i∈Ah (a.drop k),i∈Ah a:=by
 intro i hi;have:=Hn (a.take k) (a.drop k);rw[Ja]at this;rw[this];exact List.mem_append_right _ hi
def Afo{σ σ':St}{m e bytes:Nat}{u u' y:V}{ys:List (List V)}(ha:Dz bytes (m,e) u y σ=some (u',σ'))(hy:Eu σ m y=some ys)(hr:∀ r∈ys,r.all V.rowB=true)(hu:u=.nils\/∃ i g len,u=.sl i g 0 len m true):(∀ j∈u'.refs,j∈u.refs\/σ.length<=j)/\(Cl σ->Cl σ'):=by
 have hf:Ah ys.flatten=[]:=Ff (Gl hr);unfold Dz at ha;simp only[hy,Cy]at ha;unfold Jr at ha
 split at ha
 .rcases hu with rfl | ⟨i,g,len,rfl⟩
  .simp only at ha
   split at ha
   .split at ha
    .cases ha;exact⟨fun j hj=>.inl hj,id⟩
    .cases ha;refine⟨fun j hj=>.inr (by simp[V.refs]at hj;omega),fun hc=>Jg hc ?_⟩;simp[Ob.refs,hf]
   .cases ha
  .simp only at ha
   split at ha
   .split at ha
    .rename_i cs e' g' z ho;have hi:=(Al.1 ho).1;have hm:=F0 ho
     split at ha
     .split at ha
      .cases ha;exact⟨fun j hj=>.inl hj,id⟩
      .split at ha
       .split at ha
        .cases ha;refine⟨fun j hj=>.inl hj,fun hc=>Fi hc fun j hj=>?_⟩;simp only[Ob.refs,Hn,hf,Bw,Ch]at hj;rcases hj with hj | hj
         .exact hc _ hm j (A8b _ _ _ hj)
         .exact hc _ hm j (A8c _ _ _ hj)
        .split at ha
         .cases ha;refine⟨fun j hj=>.inl hj,fun hc=>Fi hc fun j hj=>?_⟩;simp only[Ob.refs,Hn,hf,Bw]at hj;exact hc _ hm j hj
         .cases ha
       .cases ha
     .cases ha
    .cases ha
   .cases ha
 .cases ha
def Ajg{σ:St}{m e lo:Nat}{u:V}{xs:List (List V)}(h:GW σ m e lo u xs):u=.nils\/∃ i g len,u=.sl i g 0 len m true:=by
 rcases h with⟨rfl,-⟩ | ⟨hn,i,g,rfl,-⟩
 .exact .inl rfl
 .exact .inr ⟨i,g,_,rfl⟩
def Mp{σ:St}{m e lo bytes:Nat}{u y:V}{xs ys:List (List V)}(h:GW σ m e lo u xs)(qU:lo<=σ.length)(hy:Eu σ m y=some ys)(hm:0<m)(hl:∀ r∈xs,r.length=m)(jo:∀ r∈ys,r.length=m)(hr:∀ r∈ys,r.all V.rowB=true)(hb:(xs.length+ys.length)*bytes<=140737488355328):
  ∃ u' σ',Dz bytes (m,e) u y σ=some (u',σ')/\GW σ' m e lo u' (xs++ys)/\σ.length<=σ'.length/\(∀ j,j<σ.length->j ∉ u.refs->σ'[j]?=σ[j]?)/\(∀ j∈u'.refs,j∈u.refs\/σ.length<=j)/\(Cl σ->Cl σ'):=by
 obtain⟨u',σ',h1,h2,h3,h4,-⟩:=G9 h qU hy hm hl jo hb;obtain⟨h5,h6⟩:=Afo h1 hy hr (Ajg h);refine⟨u',σ',h1,h2,h3,fun j hj hn=>h4 j (fun i g hu e=>hn ?_) hj,h5,h6⟩;rw[hu,e];simp[V.refs]
def Aqk{σ:St}{lo e:Nat}{u loc:V}{B:List Sp}(h:GW σ 11 e lo u (B.map Sp.row))(hb:loc.rowB=true)(nm:List UInt8)(ln:Int):
  ∃ σ',Py 4 1 σ [.str nm,iV ln,loc,u]=some (.lst 1 [[.str nm,iV ln,loc,SL true 0 (B.map Sp.row)]],σ')/\σ'.length=σ.length/\(∀ j,j ∉ u.refs->σ'[j]?=σ[j]?)/\(Cl σ->Cl σ'):=by
 have hl:∀ r∈B.map Sp.row,r.length=11:=fun r hr=>by obtain⟨x,-,rfl⟩:=Cs.1 hr;exact Ol x
 have hs:∀ r∈B.map Sp.row,r.all V.rowB=true:=fun r hr=>by obtain⟨x,-,rfl⟩:=Cs.1 hr;exact Hg x
 have jq:=I1 h AA hl hs;have hr:Ah [V.str nm,iV ln,loc,u]=u.refs:=by simp[Ah,V.refs,Pj hb]
 have js:=jq (Fy σ 9 u.refs.eraseDups) (fun i hi=>Ml σ 9 _ i (Pe.2 hi)) 7;have hi:∀ v:V,v.rowB=true->Fh σ (Fy σ 9 u.refs.eraseDups) 9 v=some v:=fun v hv=>Ud hv
 unfold Py;rw[hr];simp only[J1,Acf,hi (.str nm) rfl,hi (iV ln) rfl,hi loc hb,js];refine⟨_,rfl,Qv _ _,fun j hj=>Xk _ _ _ fun hm=>?_,Xw _ _⟩;rcases h with⟨rfl,-⟩ | ⟨hn,i,g,rfl,ho,qO⟩
 .simp[V.refs,Fy]at hm
 .have:Fy σ 9 (V.refs (.sl i g 0 (B.map Sp.row).length 11 true)).eraseDups=[i]:=by
   have e1:(V.refs (.sl i g 0 (B.map Sp.row).length 11 true)).eraseDups=[i]:=by simp[V.refs,List.eraseDups_cons]
   rw[e1];have hx:Ah (B.map Sp.row).flatten=[]:=Ff (Gl hs);simp[Fy,ho,Ob.refs,hx]
  rw[this]at hm;exact hj (by simpa[V.refs] using hm)
structure PW (s:St) (u2:V) (L:List Tp):Prop where
 hk:∃ uH,MKr s 2 1 uH []
 l5:5<=s.length
 z:s[0]?=some (.row [.nils,.nils] 29 0 0)
 d:s[3]?=some (.row (declsL.map Dp.row).flatten 86 0 0)
 p:s[4]?=some (.row [.sl 3 0 0 9 6 true,u2] 29 0 0)
 n0:0 ∉ fp s 2
 n3:3 ∉ fp s 2
 n4:4 ∉ fp s 2
 g:GW s 4 90 5 u2 (L.map Tp.row)
 gn:∀ j∈u2.refs,j ∉ fp s 2
def Agb{s s':St}{u2 uH:V}{L:List Tp}(h:PW s u2 L)(hk:MKr s' 2 1 uH [])(w:FW 2 s s'):PW s' u2 L:=by
 obtain⟨z,n0⟩:=Jh w h.z h.n0;obtain⟨d,n3⟩:=Jh w h.d h.n3;obtain⟨p,n4⟩:=Jh w h.p h.n4;refine⟨⟨_,hk⟩,Dc h.l5 w.1,z,d,p,n0,n3,n4,Gu h.g fun i hi=>w.2.1 i (C1 h.g i hi).2 (h.gn i hi),fun j hj hm=>?_⟩;rcases w.2.2 j hm with h2 | h2
 .exact h.gn j hj h2
 .have:=(C1 h.g j hj).2;omega
def Aau{s:St}{u2:V}{L:List Tp}(h:PW s u2 L):∃ (th left:Int) (se tx ao lp:Bool) (uH:V),s[2]?=some (mO 1 th left se tx ao lp uH) /\
  ∀ (th left:Int) (se tx ao lp:Bool),PW (s.set 2 (mO 1 th left se tx ao lp uH)) u2 L:=by
 obtain⟨uH,hk⟩:=h.hk;obtain⟨th,left,se,tx,ao,lp,hr⟩:=hk.row;refine⟨th,left,se,tx,ao,lp,uH,hr,fun th left se tx ao lp=>?_⟩;obtain⟨h1,h2⟩:=Axg hk th left se tx ao lp;exact Agb h h1 h2
structure TH (s0 s:St) (nm:List UInt8) (u2:V) (L:List Tp) (uB:V) (B:List Sp):Prop where
 pw:PW s u2 L
 c5:5<=s0.length
 r:s[s0.length]?=some (.row [.str nm,iV 0,.lst 1 [[.str [97]],[.str [98]]],uB] 90 0 0)
 n:s0.length ∉ fp s 2
 g:GW s 11 104 (s0.length+1) uB (B.map Sp.row)
 gn:∀ j∈uB.refs,j ∉ fp s 2
 u2l:∀ j∈u2.refs,j<s0.length
def Bh0{s:St}{u2:V}{L:List Tp}(h:PW s u2 L)(nm:List UInt8):TH s (s++[.row [.str nm,iV 0,.lst 1 [[.str [97]],[.str [98]]],.nils] 90 0 0]) nm u2 L .nils []:=by
 obtain⟨uH,hk⟩:=h.hk;obtain⟨h1,h2⟩:=Aer hk [.row [.str nm,iV 0,.lst 1 [[.str [97]],[.str [98]]],.nils] 90 0 0] (Jj hk.cl rfl);refine⟨Agb h h1 h2,h.l5,by simp,fun hm=>?_,De,by simp[V.refs],fun j hj=>(C1 h.g j hj).2⟩;rw[Ia h1,<-Ia hk]at hm;exact Afk (τ:=s) hk (An _) hm
def Amn{s0 s s':St}{nm:List UInt8}{u2 uB uH:V}{L:List Tp}{B:List Sp}(h:TH s0 s nm u2 L uB B)(hk:MKr s' 2 1 uH [])(w:FW 2 s s'):TH s0 s' nm u2 L uB B:=by
 obtain⟨r,n⟩:=Jh w h.r h.n;refine⟨Agb h.pw hk w,h.c5,r,n,Gu h.g fun i hi=>w.2.1 i (C1 h.g i hi).2 (h.gn i hi),fun j hj hm=>?_,h.u2l⟩;rcases w.2.2 j hm with h2 | h2
 .exact h.gn j hj h2
 .have:=(C1 h.g j hj).2;omega
def Ayy{s0 s:St}{nm:List UInt8}{u2 uB:V}{L:List Tp}{B:List Sp}(h:TH s0 s nm u2 L uB B):s0.length<s.length:=(Al.1 h.r).1
def Uq(B:List Sp):∀ r∈B.map Sp.row,r.length=11:=fun r hr=>by obtain⟨x,-,rfl⟩:=Cs.1 hr;exact Ol x
def Ajh(B:List Sp):∀ r∈B.map Sp.row,r.all V.rowB=true:=fun r hr=>by obtain⟨x,-,rfl⟩:=Cs.1 hr;exact Hg x
def Alj{s0 s:St}{nm:List UInt8}{u2 uB y:V}{L:List Tp}{B C:List Sp}(h:TH s0 s nm u2 L uB B)(hy:Eu s 11 y=some (C.map Sp.row))(hb:B.length+C.length<=1000000):
  ∃ qj s',Dz 176 (11,104) uB y s=some (qj,s')/\(qj.cells=[qj]/\[qj].all V.cellB=true/\qj.cellB=true)/\s'[s0.length]?=some (.row [.str nm,iV 0,.lst 1 [[.str [97]],[.str [98]]],uB] 90 0 0)/\s'[2]?=s[2]? /\
   TH s0 (s'.set s0.length (.row [.str nm,iV 0,.lst 1 [[.str [97]],[.str [98]]],qj] 90 0 0)) nm u2 L qj (B++C):=by
 obtain⟨uH,hk⟩:=h.pw.hk;have hl:=Ayy h;obtain⟨qj,s',e1,g,qT,hB,hr,hc⟩:=Mp (bytes:=176) h.g hl hy AA (Uq B) (Uq C) (Ajh C) (by rw[Aj,Aj];omega);have hf:=Ia hk
 have qN:∀ j∈fp s 2,j<s.length:=fun j hj=>by
  rw[hf]at hj;simp only[Bo]at hj;rcases hj with rfl | rfl | hj
  .exact Lg hk
  .exact Mu hk.tape
  .exact Cv hk.h j hj
 have kp:∀ j∈fp s 2,s'[j]?=s[j]?:=fun j hj=>hB j (qN j hj) fun e=>h.gn j e hj
 have k2:s'[2]?=s[2]?:=kp 2 (by rw[hf];simp);have qA:∀ j,j<=s0.length->s'[j]?=s[j]?:=fun j hj=>hB j AA fun e=>by have:=(C1 h.g j e).1;omega
 have hn:=h.n;have c5:=h.c5;have qf:∀ j,j≠s0.length->(s'.set s0.length (.row [.str nm,iV 0,.lst 1 [[.str [97]],[.str [98]]],qj] 90 0 0))[j]?=s'[j]?:=fun j hj=>Bk (Ne.symm hj)
 have ks:∀ j∈fp s 2,(s'.set s0.length (.row [.str nm,iV 0,.lst 1 [[.str [97]],[.str [98]]],qj] 90 0 0))[j]?=s[j]?:=fun j hj=>(qf j fun(e:j=s0.length)=>hn (by rw[<-e];exact hj)).trans (kp j hj)
 have qo:fp (s'.set s0.length (.row [.str nm,iV 0,.lst 1 [[.str [97]],[.str [98]]],qj] 90 0 0)) 2=fp s 2:=by
  unfold fp;rw[ks 2 (by rw[hf];simp)]
 have qS:Cl (s'.set s0.length (.row [.str nm,iV 0,.lst 1 [[.str [97]],[.str [98]]],qj] 90 0 0)):=Fi (hc hk.cl) fun j hj=>by
  simp only[Ob.refs,Ah,V.refs,Ci,Bw]at hj;exact(C1 g j hj).2
 have qR:∀ j∈u2.refs,j≠s0.length/\j ∉ uB.refs:=fun j hj=>by
  have:=h.u2l j hj;exact⟨by omega,fun e=>by have:=(C1 h.g j e).1;omega⟩
 have qq:TS (s'.set s0.length (.row [.str nm,iV 0,.lst 1 [[.str [97]],[.str [98]]],qj] 90 0 0)) 1:=by
  obtain⟨z,t,l,a,h1,h2⟩:=hk.tape;exact⟨z,t,l,a,by rw[ks 1 (by rw[hf];simp)];exact h1,h2⟩
 have qe:=h.pw;refine⟨qj,s',e1,⟨(Ji (Bx g)).1,(Ji (Bx g)).2,Bx g⟩,(qA _ (An _)).trans h.r,k2,⟨⟨uH,Ra hk qS (ks 2 (by rw[hf];simp)) qq fun i hi=>ks i (by rw[hf];simp[hi])⟩,by rw[Jc];have:=qe.l5;omega,?_,?_,?_,by rw[qo];exact qe.n0,by rw[qo];exact qe.n3,by rw[qo];exact qe.n4,?_,by rw[qo];exact qe.gn⟩,c5,Bv AA,by rw[qo];exact hn,?_,?_,h.u2l⟩
 .rw[qf 0 AA,qA 0 AA];exact qe.z
 .rw[qf 3 AA,qA 3 AA];exact qe.d
 .rw[qf 4 AA,qA 4 AA];exact qe.p
 .exact Gu qe.g fun i hi=>by rw[qf i (qR i hi).1,hB i (C1 qe.g i hi).2 (qR i hi).2]
 .rw[Dl];exact Gu g fun i hi=>qf i (by have:=(C1 g i hi).1;omega)
 .intro j hj;rw[qo];rcases hr j hj with h3 | h3
  .exact h.gn j h3
  .exact fun e=>by have:=qN j e;omega
def Bh1{s0 s:St}{nm:List UInt8}{u2 uB:V}{L:List Tp}{B:List Sp}(h:TH s0 s nm u2 L uB B)(hL:L.length<=1000000):
  ∃ s1 u' s2,Py 4 1 s [.str nm,iV 0,.lst 1 [[.str [97]],[.str [98]]],uB]=some (.lst 1 [[.str nm,iV 0,.lst 1 [[.str [97]],[.str [98]]],SL true 0 (B.map Sp.row)]],s1) /\
   Dz 72 (4,90) u2 (.lst 1 [[.str nm,iV 0,.lst 1 [[.str [97]],[.str [98]]],SL true 0 (B.map Sp.row)]]) s1=some (u',s2)/\(u'.cells=[u']/\[u'].all V.cellB=true/\u'.cellB=true)/\s2[4]?=some (.row [.sl 3 0 0 9 6 true,u2] 29 0 0) /\
   PW (s2.set 4 (.row [.sl 3 0 0 9 6 true,u'] 29 0 0)) u' (L++[⟨nm,0,true,1,[[97],[98]],true,0,B⟩]):=by
 obtain⟨uH,hk⟩:=h.pw.hk;have hl:=Ayy h;have c5:=h.c5;have qe:=h.pw;obtain⟨s1,e1,l1,f1,c1⟩:=Aqk h.g (loc:=.lst 1 [[.str [97]],[.str [98]]]) rfl nm 0;have hx:Tp.row ⟨nm,0,true,1,[[97],[98]],true,0,B⟩=[.str nm,iV 0,.lst 1 [[.str [97]],[.str [98]]],SL true 0 (B.map Sp.row)]:=rfl
 have qR:∀ j∈u2.refs,j ∉ uB.refs:=fun j hj e=>by
  have:=h.u2l j hj;have:=(C1 h.g j e).1;omega
 have g1:GW s1 4 90 5 u2 (L.map Tp.row):=Gu qe.g fun i hi=>f1 i (qR i hi)
 obtain⟨u',s2,e2,g2,qT,hB,hr,hc⟩:=Mp (bytes:=72) (y:=.lst 1 [Tp.row ⟨nm,0,true,1,[[97],[98]],true,0,B⟩]) (ys:=[Tp.row ⟨nm,0,true,1,[[97],[98]],true,0,B⟩]) g1 (by rw[l1];exact qe.l5) rfl AA (Ui L) (by simp;rfl) (fun r hr=>by rw[D4.1 hr,hx];simp only[Bp,Ce,G8];rfl) AJ;have hf:=Ia hk
 have qN:∀ j∈fp s 2,j<s.length:=fun j hj=>by
  rw[hf]at hj;simp only[Bo]at hj;rcases hj with rfl | rfl | hj
  .exact Lg hk
  .exact Mu hk.tape
  .exact Cv hk.h j hj
 have k0:∀ j,j<s.length->j ∉ uB.refs->j ∉ u2.refs->s2[j]?=s[j]?:=fun j hj h1 h2=>by rw[hB j AA h2,f1 j h1]
 have kp:∀ j∈fp s 2,s2[j]?=s[j]?:=fun j hj=>k0 j (qN j hj) (fun e=>h.gn j e hj) fun e=>qe.gn j e hj
 have qA:∀ j,j<5->s2[j]?=s[j]?:=fun j hj=>k0 j AA (fun e=>by have:=(C1 h.g j e).1;omega) fun e=>by have:=(C1 qe.g j e).1;omega
 have qf:∀ j,j≠4->(s2.set 4 (.row [.sl 3 0 0 9 6 true,u'] 29 0 0))[j]?=s2[j]?:=fun j hj=>Bk (Ne.symm hj)
 have ks:∀ j∈fp s 2,(s2.set 4 (.row [.sl 3 0 0 9 6 true,u'] 29 0 0))[j]?=s[j]?:=fun j hj=>(qf j fun(e:j=4)=>qe.n4 (by rw[<-e];exact hj)).trans (kp j hj)
 have qo:fp (s2.set 4 (.row [.sl 3 0 0 9 6 true,u'] 29 0 0)) 2=fp s 2:=by
  unfold fp;rw[ks 2 (by rw[hf];simp)]
 have h5:5<=s2.length:=by have:=qe.l5;omega
 have qS:Cl (s2.set 4 (.row [.sl 3 0 0 9 6 true,u'] 29 0 0)):=Fi (hc (c1 hk.cl)) fun j hj=>by
  simp only[Ob.refs,Ah,V.refs,Bw,Ch,D4]at hj;rcases hj with rfl | hj
  .omega
  .exact(C1 g2 j hj).2
 have qq:TS (s2.set 4 (.row [.sl 3 0 0 9 6 true,u'] 29 0 0)) 1:=by
  obtain⟨z,t,l,a,h1,h2⟩:=hk.tape;exact⟨z,t,l,a,by rw[ks 1 (by rw[hf];simp)];exact h1,h2⟩
 refine⟨s1,u',s2,e1,by rw[hx]at e2;exact e2,⟨(Ji (Bx g2)).1,(Ji (Bx g2)).2,Bx g2⟩,(qA 4 AA).trans qe.p,⟨⟨uH,Ra hk qS (ks 2 (by rw[hf];simp)) qq fun i hi=>ks i (by rw[hf];simp[hi])⟩,by rw[Jc];exact h5,?_,?_,Bv AA,by rw[qo];exact qe.n0,by rw[qo];exact qe.n3,by rw[qo];exact qe.n4,?_,?_⟩⟩
 .rw[qf 0 AA,qA 0 AA];exact qe.z
 .rw[qf 3 AA,qA 3 AA];exact qe.d
 .rw[Dl];exact Gu g2 fun i hi=>qf i (by have:=(C1 g2 i hi).1;omega)
 .intro j hj;rw[qo];rcases hr j hj with h3 | h3
  .exact qe.gn j h3
  .exact fun e=>by have:=qN j e;omega
