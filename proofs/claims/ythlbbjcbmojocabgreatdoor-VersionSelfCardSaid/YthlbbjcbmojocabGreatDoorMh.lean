/- Walks: which statements are shaped. -/
import Derived.Test.YthlbbjcbmojocabGreatDoorLt
set_option linter.all false
namespace Go.Proofs.YthlbbjcbmojocabGreatDoor.KM
open Go
set_option maxHeartbeats 2000000 in
def Ayt(s:Sp)(hi:∀ x∈s.idx,Fn TT PT 121 [.agg x.row] (.bool (Gq x)))(he:Fn TT PT 121 [.agg s.ex.row] (.bool (Gq s.ex)))(qP:s.ex.l.length<=1000000000)(qY:s.idx.length<=1000000000)(jN:s.body.length<=1000000000)(jX:s.els.length<=1000000000)
  (hb:Fn TT PT 73 [SL s.bz s.bt (s.body.map Sp.row)] (.bool (Jk s.body))) (hs:Fn TT PT 73 [SL s.ez s.et (s.els.map Sp.row)] (.bool (Jk s.els))):Fn TT PT 94 [.agg s.row] (.bool (Nd s)):=by
 obtain⟨op,line,nm,arg,iz,it,idx,ex,bz,bt,body,ez,et,els⟩:=s;have hr:=Pz ⟨op,line,nm,arg,iz,it,idx,ex,bz,bt,body,ez,et,els⟩;have hR:=A29 ⟨op,line,nm,arg,iz,it,idx,ex,bz,bt,body,ez,et,els⟩;generalize Nd ⟨op,line,nm,arg,iz,it,idx,ex,bz,bt,body,ez,et,els⟩=R at hR ⊢;have qx:=Ayr ex qP;simp only at hr hR hi he hb hs qY jN jX qP;rw[hr];clear hr;have qU:=Bb ex;rw[qU]at he qx ⊢;unfold Aiy at hR;simp only at hR;generalize ex.op=xo at he qx ⊢;generalize ex.n=xn at he qx ⊢;generalize ex.nm=xm at he qx ⊢;generalize ex.z=xz at he qx ⊢;generalize ex.t=xt at he qx ⊢;generalize ex.l=xl at he qx qP ⊢;clear qU;simp only[Bq,Bf];obtain⟨A3,h3⟩:∃ b,b=(if Ft op then nm==[] else Bv nm):=⟨_,rfl⟩;obtain⟨A4,h4⟩:∃ b,b=(if op=15 then Bv arg else arg==[]):=⟨_,rfl⟩;obtain⟨A5,h5⟩:∃ b,b=decide (idx.length<=1):=⟨_,rfl⟩;obtain⟨A6,h6⟩:∃ b,b=(op==1||idx.isEmpty):=⟨_,rfl⟩;obtain⟨A7,h7⟩:∃ b,b=idx.all Gq:=⟨_,rfl⟩;obtain⟨A8,h8⟩:∃ b,b=(if Dy op then Gq ex else Acc ex):=⟨_,rfl⟩;obtain⟨A9,h9⟩:∃ b,b=(Bn op||body.isEmpty):=⟨_,rfl⟩;obtain⟨A10,jx⟩:∃ b,b=(op==2||els.isEmpty):=⟨_,rfl⟩;rw[<-h3,<-h4,<-h5,<-h6,<-h7,<-h8,<-h9,<-jx]at hR;obtain⟨B1,jJ⟩:∃ b,b=Jk body:=⟨_,rfl⟩;obtain⟨B2,jK⟩:∃ b,b=Jk els:=⟨_,rfl⟩;rw[<-jJ]at hR hb;rw[<-jK]at hR hs;have qg:(idx.map Xp.row).length=idx.length:=Ba ..;have qu:(body.map Sp.row).length=body.length:=Ba ..;have qz:(els.map Sp.row).length=els.length:=Ba ..;have qy:=Rz nm;have jf:=Rz arg;refine Bz T94 rfl ?_;refine Ff (fun e σ=>e=[(1,.ptr 0 0 0)]/\σ=[.row [iV op,iV line,.str nm,.str arg,SL iz it (idx.map Xp.row),iV xo,iV xn,.str xm,SL xz xt (xl.map Xp.row),SL bz bt (body.map Sp.row),SL ez et (els.map Sp.row)] 78 0 0]) (fun k' hk=>?_) ?_
 .simp only[go_sem];exact hk _ _ ⟨rfl,rfl⟩
 rintro e σ ⟨rfl,rfl⟩;refine Ff (fun e σ=>(e=[(1,.ptr 0 0 0)]/\σ=[.row [iV op,iV line,.str nm,.str arg,SL iz it (idx.map Xp.row),iV xo,iV xn,.str xm,SL xz xt (xl.map Xp.row),SL bz bt (body.map Sp.row),SL ez et (els.map Sp.row)] 78 0 0])/\(1<=op/\op<=15)/\R=((A3&&(A4&&(A5&&(A6&&(A7&&(A8&&(A9&&(A10))))))))&&(B1&&B2))) (fun k' hk=>?_) ?_
 .by_cases g1:op<1
  .rw[decide_eq_false (show ¬ 1<=op by omega)]at hR;subst hR;have f1:(op<1)=True:=eq_true g1;simp only[go_sem,f1];exact Ap rfl rfl
  have f1:(op<1)=False:=eq_false g1;rw[decide_eq_true (show 1<=op by omega)]at hR;by_cases g2:15<op
  .rw[decide_eq_false (show ¬ op<=15 by omega)]at hR;subst hR;have f2:((15:Int)<op)=True:=eq_true g2;simp only[go_sem,f1,f2,gt_iff_lt];exact Ap rfl rfl
  have f2:((15:Int)<op)=False:=eq_false g2;rw[decide_eq_true (show op<=15 by omega)]at hR;simp only[go_sem,f1,f2,gt_iff_lt];exact hk _ _ ⟨⟨rfl,rfl⟩,⟨by omega,by omega⟩,by rw[hR];rfl⟩
 clear hR;rintro e σ ⟨⟨rfl,rfl⟩,kc,hR⟩;refine Ff (fun e σ=>e=[(1,.ptr 0 0 0),(3,.bool (Ft op))]/\σ=[.row [iV op,iV line,.str nm,.str arg,SL iz it (idx.map Xp.row),iV xo,iV xn,.str xm,SL xz xt (xl.map Xp.row),SL bz bt (body.map Sp.row),SL ez et (els.map Sp.row)] 78 0 0]) (fun k' hk=>?_) ?_
 .unfold Ft at hk;cases q2:(op==2);rotate_left
  .simp only[go_sem,q2];exact hk _ _ ⟨by rw[q2];rfl,rfl⟩
  cases q3:(op==3);rotate_left
  .simp only[go_sem,q2,q3];exact hk _ _ ⟨by rw[q2,q3];rfl,rfl⟩
  cases q7:(op==7);rotate_left
  .simp only[go_sem,q2,q3,q7];exact hk _ _ ⟨by rw[q2,q3,q7];rfl,rfl⟩
  cases q8:(op==8)
  .simp only[go_sem,q2,q3,q7,q8];exact hk _ _ ⟨by rw[q2,q3,q7,q8];rfl,rfl⟩
  .simp only[go_sem,q2,q3,q7,q8];exact hk _ _ ⟨by rw[q2,q3,q7,q8];rfl,rfl⟩
 rintro e σ ⟨rfl,rfl⟩;refine Ff (fun e σ=>(e=[(1,.ptr 0 0 0)]/\σ=[.row [iV op,iV line,.str nm,.str arg,SL iz it (idx.map Xp.row),iV xo,iV xn,.str xm,SL xz xt (xl.map Xp.row),SL bz bt (body.map Sp.row),SL ez et (els.map Sp.row)] 78 0 0])/\R=((A4&&(A5&&(A6&&(A7&&(A8&&(A9&&(A10)))))))&&(B1&&B2))) (fun k' hk=>?_) ?_
 .cases hn:Ft op
  .rw[hn,if_neg (by simp)]at h3;rw[<-h3]at qy;cases A3
   .subst hR;simp only[go_sem,Ax,Ar];refine Ad qy rfl ?_;simp only[go_sem,Ax,Ar];exact Ap rfl rfl
   .simp only[go_sem,Ax,Ar];refine Ad qy rfl ?_;simp only[go_sem,Ax,Ar];exact hk _ _ ⟨⟨rfl,rfl⟩,by rw[hR];rfl⟩
  .rw[hn,if_pos rfl]at h3;have h3:=h3.symm;cases A3
   .subst hR;simp only[go_sem,Ax,Ar,h3];exact Ap rfl rfl
   .simp only[go_sem,Ax,Ar,h3];exact hk _ _ ⟨⟨rfl,rfl⟩,by rw[hR];rfl⟩
 clear hR;rintro e σ ⟨⟨rfl,rfl⟩,hR⟩;refine Ff (fun e σ=>(e=[(1,.ptr 0 0 0)]/\σ=[.row [iV op,iV line,.str nm,.str arg,SL iz it (idx.map Xp.row),iV xo,iV xn,.str xm,SL xz xt (xl.map Xp.row),SL bz bt (body.map Sp.row),SL ez et (els.map Sp.row)] 78 0 0])/\R=((A5&&(A6&&(A7&&(A8&&(A9&&(A10))))))&&(B1&&B2))) (fun k' hk=>?_) ?_
 .by_cases qW:op=15
  .rw[if_pos qW]at h4;rw[<-h4]at jf;have qK:(op==15)=true:=by simp[qW]
   cases A4
   .subst hR;simp only[go_sem,Ax,Ar,qK,bne];refine Ad jf rfl ?_;simp only[go_sem,Ax,Ar];exact Ap rfl rfl
   .simp only[go_sem,Ax,Ar,qK,bne];refine Ad jf rfl ?_;simp only[go_sem,Ax,Ar,qK,bne];exact hk _ _ ⟨⟨rfl,rfl⟩,by rw[hR];rfl⟩
  .rw[if_neg qW]at h4;have h4:=h4.symm;have qK:(op==15)=false:=by simp[qW]
   cases A4
   .subst hR;simp only[go_sem,Ax,Ar,h4,qK,bne];exact Ap rfl rfl
   .simp only[go_sem,Ax,Ar,h4,qK,bne];exact hk _ _ ⟨⟨rfl,rfl⟩,by rw[hR];rfl⟩
 clear hR;rintro e σ ⟨⟨rfl,rfl⟩,hR⟩;refine Ff (fun e σ=>(e=[(1,.ptr 0 0 0)]/\σ=[.row [iV op,iV line,.str nm,.str arg,SL iz it (idx.map Xp.row),iV xo,iV xn,.str xm,SL xz xt (xl.map Xp.row),SL bz bt (body.map Sp.row),SL ez et (els.map Sp.row)] 78 0 0])/\R=((A8&&(A9&&(A10)))&&(B1&&B2))) (fun k' hk=>?_) ?_
 .have hN:idx.length=0\/idx.length=1\/2<=idx.length:=by omega
  rcases hN with h | h | h
  .have qm:idx=[]:=V8.1 h;have f1:((1:Int)<(idx.length:Int))=False:=eq_false (by omega);have f2:((0:Int)<(idx.length:Int))=False:=eq_false (by omega);have f3:((idx.length:Int)==1)=false:=by simp[h]
   rw[h5,h6,h7]at hR
   have hR:R=((A8&&(A9&&A10))&&(B1&&B2)):=by rw[hR,qm];cases(op==1)<;>rfl
   cases q1:(op==1)
   .simp only[go_sem,Ax,Ar,q1,bne,qg,f1,f2,f3,gt_iff_lt];exact hk _ _ ⟨⟨rfl,rfl⟩,hR⟩
   .simp only[go_sem,Ax,Ar,q1,bne,qg,f1,f2,f3,gt_iff_lt];exact hk _ _ ⟨⟨rfl,rfl⟩,hR⟩
  .obtain⟨a,qm⟩:=List.length_eq_one_iff.1 h;have f1:((1:Int)<(idx.length:Int))=False:=eq_false (by omega);have f2:((0:Int)<(idx.length:Int))=True:=eq_true (by omega);have f3:((idx.length:Int)==1)=true:=by simp[h]
   have qU:=Bb a;have qM:=Dm a;have hf:=hi a (by rw[qm];exact E0.2 rfl);have qG:(idx.map Xp.row)[0]?=some [iV a.op,iV a.n,.str a.nm,SL a.z a.t (a.l.map Xp.row)]:=by rw[qm,<-qU];rfl
   rw[qU]at hf qM;have h5:A5=true:=by rw[h5,qm];rfl
   have h7:A7=Gq a:=by rw[h7,qm,As,Bd,Wh]
   have h6:A6=(op==1):=by rw[h6,qm];simp
   rw[h5,h6,h7]at hR;cases q1:(op==1)
   .rw[q1]at hR;subst hR;simp only[go_sem,Ax,Ar,q1,bne,qg,f1,f2,f3,gt_iff_lt];exact Ap rfl rfl
   rw[q1]at hR;cases qq:Gq a
   .rw[qq]at hR hf;subst hR;simp only[go_sem,Ax,Ar,q1,bne,qg,f1,f2,f3,gt_iff_lt,qG];refine Ad hf (by simp only[go_sem]) ?_;simp only[go_sem,Ax,Ar];exact Ap rfl rfl
   .rw[qq]at hR hf;simp only[go_sem,Ax,Ar,q1,bne,qg,f1,f2,f3,gt_iff_lt,qG];refine Ad hf (by simp only[go_sem]) ?_;simp only[go_sem,Ax,Ar];exact hk _ _ ⟨⟨rfl,rfl⟩,hR⟩
  .have f1:((1:Int)<(idx.length:Int))=True:=eq_true (by omega);rw[show A5=false from by rw[h5];exact decide_eq_false (by omega)]at hR;subst hR;simp only[go_sem,Ax,Ar,qg,f1,gt_iff_lt];exact Ap rfl rfl
 clear hR;rintro e σ ⟨⟨rfl,rfl⟩,hR⟩;refine Ff (fun e σ=>e=[(1,.ptr 0 0 0),(4,.bool (Dy op))]/\σ=[.row [iV op,iV line,.str nm,.str arg,SL iz it (idx.map Xp.row),iV xo,iV xn,.str xm,SL xz xt (xl.map Xp.row),SL bz bt (body.map Sp.row),SL ez et (els.map Sp.row)] 78 0 0]) (fun k' hk=>?_) ?_
 .unfold Dy at hk;cases q1:(op==1);rotate_left
  .simp only[go_sem,q1];exact hk _ _ ⟨by rw[q1];rfl,rfl⟩
  cases q2:(op==2);rotate_left
  .simp only[go_sem,q1,q2];exact hk _ _ ⟨by rw[q1,q2];rfl,rfl⟩
  cases q3:(op==3);rotate_left
  .simp only[go_sem,q1,q2,q3];exact hk _ _ ⟨by rw[q1,q2,q3];rfl,rfl⟩
  cases q14:(op==14)
  .simp only[go_sem,q1,q2,q3,q14];exact hk _ _ ⟨by rw[q1,q2,q3,q14];rfl,rfl⟩
  .simp only[go_sem,q1,q2,q3,q14];exact hk _ _ ⟨by rw[q1,q2,q3,q14];rfl,rfl⟩
 rintro e σ ⟨rfl,rfl⟩;refine Ff (fun e σ=>(e=[(1,.ptr 0 0 0)]/\σ=[.row [iV op,iV line,.str nm,.str arg,SL iz it (idx.map Xp.row),iV xo,iV xn,.str xm,SL xz xt (xl.map Xp.row),SL bz bt (body.map Sp.row),SL ez et (els.map Sp.row)] 78 0 0])/\R=((A9&&(A10))&&(B1&&B2))) (fun k' hk=>?_) ?_
 .cases hn:Dy op
  .rw[hn,if_neg (by simp)]at h8;rw[<-h8]at qx;cases A8
   .subst hR;simp only[go_sem,Ax,Ar];refine Ad qx (by simp only[go_sem]) ?_;simp only[go_sem,Ax,Ar];exact Ap rfl rfl
   .simp only[go_sem,Ax,Ar];refine Ad qx (by simp only[go_sem]) ?_;simp only[go_sem,Ax,Ar];exact hk _ _ ⟨⟨rfl,rfl⟩,by rw[hR];rfl⟩
  .rw[hn,if_pos rfl]at h8;rw[<-h8]at he;cases A8
   .subst hR;simp only[go_sem,Ax,Ar];refine Ad he (by simp only[go_sem]) ?_;simp only[go_sem,Ax,Ar];exact Ap rfl rfl
   .simp only[go_sem,Ax,Ar];refine Ad he (by simp only[go_sem]) ?_;simp only[go_sem,Ax,Ar];exact hk _ _ ⟨⟨rfl,rfl⟩,by rw[hR];rfl⟩
 clear hR;rintro e σ ⟨⟨rfl,rfl⟩,hR⟩;refine Ff (fun e σ=>e=[(1,.ptr 0 0 0),(5,.bool (Bn op))]/\σ=[.row [iV op,iV line,.str nm,.str arg,SL iz it (idx.map Xp.row),iV xo,iV xn,.str xm,SL xz xt (xl.map Xp.row),SL bz bt (body.map Sp.row),SL ez et (els.map Sp.row)] 78 0 0]) (fun k' hk=>?_) ?_
 .unfold Bn at hk;by_cases g1:2<=op
  .have f1:((2:Int)<=op)=True:=eq_true g1;rw[decide_eq_true g1]at hk;by_cases g2:op<=8
   .have f2:(op<=8)=True:=eq_true g2;rw[decide_eq_true g2]at hk;simp only[go_sem,f1,f2,ge_iff_le];exact hk _ _ ⟨rfl,rfl⟩
   .have f2:(op<=8)=False:=eq_false g2;rw[decide_eq_false g2]at hk;simp only[go_sem,f1,f2,ge_iff_le];exact hk _ _ ⟨rfl,rfl⟩
  .have f1:((2:Int)<=op)=False:=eq_false g1;rw[decide_eq_false g1]at hk;simp only[go_sem,f1,ge_iff_le];exact hk _ _ ⟨rfl,rfl⟩
 rintro e σ ⟨rfl,rfl⟩;refine Ff (fun e σ=>(e=[(1,.ptr 0 0 0)]/\σ=[.row [iV op,iV line,.str nm,.str arg,SL iz it (idx.map Xp.row),iV xo,iV xn,.str xm,SL xz xt (xl.map Xp.row),SL bz bt (body.map Sp.row),SL ez et (els.map Sp.row)] 78 0 0])/\R=(B1&&B2)) (fun k' hk=>?_) ?_
 .have e1:((0:Int)<(body.length:Int))=(body.isEmpty=false):=by
   cases body with
   | nil=>simp
   | cons x r=>simp
  have e2:((0:Int)<(els.length:Int))=(els.isEmpty=false):=by
   cases els with
   | nil=>simp
   | cons x r=>simp
  rw[h9,jx]at hR
  cases hn:Bn op<;>cases hbe:body.isEmpty
  .rw[hn,hbe]at hR;subst hR;simp only[go_sem,Ax,Ar,qu,e1,hbe,gt_iff_lt,decide_true];exact Ap rfl rfl
  all_goals
   rw[hn,hbe]at hR
   cases q2:(op==2)<;>cases hee:els.isEmpty
   .rw[q2,hee]at hR;subst hR;simp only[go_sem,Ax,Ar,qu,qz,e1,e2,hbe,hee,q2,bne,gt_iff_lt,decide_true];exact Ap rfl rfl
   all_goals
    rw[q2,hee]at hR;simp only[go_sem,Ax,Ar,qu,qz,e1,e2,hbe,hee,q2,bne,gt_iff_lt,decide_true];exact hk _ _ ⟨⟨rfl,rfl⟩,by rw[hR];rfl⟩
 clear hR;rintro e σ ⟨⟨rfl,rfl⟩,hR⟩;cases B1
 .subst hR;simp only[go_sem];refine Ad hb (by simp only[go_sem]) ?_;simp only[go_sem];exact Ap rfl rfl
 .cases B2
  .subst hR;simp only[go_sem];refine Ad hb (by simp only[go_sem]) ?_;simp only[go_sem];refine Ad hs (by simp only[go_sem]) ?_;simp only[go_sem];exact Ap rfl rfl
  .subst hR;simp only[go_sem];refine Ad hb (by simp only[go_sem]) ?_;simp only[go_sem];refine Ad hs (by simp only[go_sem]) ?_;simp only[go_sem];exact Ap rfl rfl
def Aex(z:Bool)(t:Nat)(l:List Sp)(hl:l.length<=1000000000)(ih:∀ y∈l,Fn TT PT 94 [.agg y.row] (.bool (Nd y))):Fn TT PT 73 [SL z t (l.map Sp.row)] (.bool (Jk l)):=by
 have qk:(l.map Sp.row).length=l.length:=Ba ..;rw[Ane];obtain⟨R,hR⟩:∃ b,b=l.all Nd:=⟨_,rfl⟩;rw[<-hR];refine Bz T73 rfl ?_;simp only[go_sem];refine B3 (α:=Nat) (fun i=>l.length - i) (fun i=>[(0,SL z t (l.map Sp.row)),(3,iV (i:Int))]) (fun _=>[]) (fun i=>i<=l.length/\l.all Nd=(l.drop i).all Nd) ?_ 0 ⟨A0 _,rfl⟩;rintro i ⟨hi,qo⟩ jh;refine B4 (by delta lp73_0;exact rfl) ?_;by_cases hc:i<l.length
 .have f1:((i:Int)<(l.length:Int))=True:=eq_true (by omega);have qZ:=Bk (show i<9223372036854775807 by omega);obtain⟨a,ha⟩:∃ a,l[i]?=some a:=⟨_,A2 hc⟩;have qM:=Ga a;have hf:=ih a (Hx ha);have qG:(l.map Sp.row)[i]?=some a.row:=by rw[Av,ha,Fr]
  have qO:l.drop i=a::l.drop (i+1):=by rw[Gr hc,(Aq.1 ha).2]
  have qw:=Mo a;rw[qO,As]at qo;generalize a.row=ar at qG hf qM qw;have jH:ar.take 11=ar:=Mi (by omega);cases qq:Nd a
  .rw[qq]at hf qo;rw[qo]at hR;subst hR;simp only[go_sem,qk,f1,qG,qw,jH];refine Ad hf (by simp only[go_sem,qM]) ?_;simp only[go_sem];exact Ap rfl rfl
  .rw[qq]at hf qo;simp only[go_sem,qk,f1,qG,qw,jH];refine Ad hf (by simp only[go_sem,qM]) ?_;simp only[go_sem,qZ];exact Bg (jh (i+1) (by omega) ⟨hc,by simpa using qo⟩) rfl
 .have f1:((i:Int)<(l.length:Int))=False:=eq_false (by omega);rw[qo,Ge (by omega)]at hR;subst hR;simp only[go_sem,qk,f1];exact Ap rfl rfl
def Ag7:∀ (N:Nat) (s:Sp),C2 s.row<=N->N<=1000000000->Fn TT PT 94 [.agg s.row] (.bool (Nd s))
 | 0,s,h,_=>by rw[L9]at h;omega
 | N+1,s,h,hN=>by
  have h1:=L9 s;have h2:=Jp (f:=Xp.row) (fun x=>by rw[F8];omega) s.idx;have h3:=Jp (f:=Sp.row) (fun x=>by rw[L9];omega) s.body;have h4:=Jp (f:=Sp.row) (fun x=>by rw[L9];omega) s.els;have h5:=Jp (f:=Xp.row) (fun x=>by rw[F8];omega) s.ex.l;have h6:=F8 s.ex;refine Ayt s (fun x hx=>Acd N x ?_ (by omega)) (Acd N s.ex (by omega) (by omega)) (by omega) (by omega) (by omega) (by omega) (Aex _ _ _ (by omega) fun y hy=>Ag7 N y ?_ (by omega)) (Aex _ _ _ (by omega) fun y hy=>Ag7 N y ?_ (by omega))
  .have:=Io (f:=Xp.row) hx;omega
  .have:=Io (f:=Sp.row) hy;omega
  .have:=Io (f:=Sp.row) hy;omega
set_option maxHeartbeats 1000000 in
def A68(d:Dp):Fn TT PT 71 [.agg d.row] (.bool (S8 d)):=by
 obtain⟨kind,line,nm,size,init,on⟩:=d;obtain⟨R,hR⟩:∃ b,b=S8 ⟨kind,line,nm,size,init,on⟩:=⟨_,rfl⟩;rw[<-hR];unfold S8 at hR;simp only at hR;have qy:=Rz nm;have jo:=Rz on;refine Bz T71 rfl ?_;unfold Dp.row;simp only;obtain⟨A3,h3⟩:∃ b,b=Bv nm:=⟨_,rfl⟩;obtain⟨A6,h6⟩:∃ b,b=(if kind=5 then Bv on else on==[]):=⟨_,rfl⟩;obtain⟨A7,h7⟩:∃ b,b=(decide (-9223372036854775808<init)&&(init==0||(kind==1||kind==2))):=⟨_,rfl⟩;rw[<-h3,<-h6,<-h7]at hR;rw[<-h3]at qy;refine Ff (fun e σ=>e=[(1,.ptr 0 0 0)]/\σ=[.row [iV kind,iV line,.str nm,iV size,iV init,.str on] 64 0 0]) (fun k' hk=>?_) ?_
 .simp only[go_sem];exact hk _ _ ⟨rfl,rfl⟩
 rintro e σ ⟨rfl,rfl⟩;refine Ff (fun e σ=>(e=[(1,.ptr 0 0 0)]/\σ=[.row [iV kind,iV line,.str nm,iV size,iV init,.str on] 64 0 0])/\R=(A6&&A7)) (fun k' hk=>?_) ?_
 .by_cases g1:kind<1
  .rw[decide_eq_false (show ¬ 1<=kind by omega)]at hR;subst hR;have f1:(kind<1)=True:=eq_true g1;simp only[go_sem,f1];exact Ap rfl rfl
  have f1:(kind<1)=False:=eq_false g1;rw[decide_eq_true (show 1<=kind by omega)]at hR;by_cases g2:6<kind
  .rw[decide_eq_false (show ¬ kind<=6 by omega)]at hR;subst hR;have f2:((6:Int)<kind)=True:=eq_true g2;simp only[go_sem,f1,f2,gt_iff_lt];exact Ap rfl rfl
  have f2:((6:Int)<kind)=False:=eq_false g2;rw[decide_eq_true (show kind<=6 by omega)]at hR;cases A3
  .subst hR;simp only[go_sem,f1,f2,gt_iff_lt];refine Ad qy rfl ?_;simp only[go_sem,Ax];exact Ap rfl rfl
  by_cases g4:size<0
  .rw[decide_eq_false (show ¬ 0<=size by omega)]at hR;subst hR;have f4:(size<0)=True:=eq_true g4;simp only[go_sem,f1,f2,gt_iff_lt];refine Ad qy rfl ?_;simp only[go_sem,f4,Ar];exact Ap rfl rfl
  have f4:(size<0)=False:=eq_false g4;rw[decide_eq_true (show 0<=size by omega)]at hR
  cases q1:(kind==1)<;>cases q5:(size==0)
  .rw[q1,q5]at hR;subst hR;simp only[go_sem,f1,f2,gt_iff_lt];refine Ad qy rfl ?_;simp only[go_sem,f4,Ar,Ax,bne,q1,q5];exact Ap rfl rfl
  all_goals
   rw[q1,q5]at hR;simp only[go_sem,f1,f2,gt_iff_lt];refine Ad qy rfl ?_;simp only[go_sem,f4,Ar,Ax,bne,q1,q5];exact hk _ _ ⟨⟨rfl,rfl⟩,by rw[hR];rfl⟩
 clear hR;rintro e σ ⟨⟨rfl,rfl⟩,hR⟩;refine Ff (fun e σ=>(e=[(1,.ptr 0 0 0)]/\σ=[.row [iV kind,iV line,.str nm,iV size,iV init,.str on] 64 0 0])/\R=A7) (fun k' hk=>?_) ?_
 .by_cases h5:kind=5
  .rw[if_pos h5]at h6;have q5:(kind==5)=true:=by simp[h5]
   rw[<-h6]at jo;cases A6
   .subst hR;simp only[go_sem,q5,bne,Ar,Ax];refine Ad jo rfl ?_;simp only[go_sem,Ax];exact Ap rfl rfl
   .simp only[go_sem,q5,bne,Ar,Ax];refine Ad jo rfl ?_;simp only[go_sem,q5,bne,Ar,Ax];exact hk _ _ ⟨⟨rfl,rfl⟩,by rw[hR];rfl⟩
  .rw[if_neg h5]at h6;have h6:=h6.symm;have q5:(kind==5)=false:=by simp[h5]
   cases A6
   .subst hR;simp only[go_sem,q5,h6,bne,Ar,Ax];exact Ap rfl rfl
   .simp only[go_sem,q5,h6,bne,Ar,Ax];exact hk _ _ ⟨⟨rfl,rfl⟩,by rw[hR];rfl⟩
 clear hR;rintro e σ ⟨⟨rfl,rfl⟩,hR⟩;rw[h7]at hR;by_cases g7 : -9223372036854775808<init
 .have f7:((-9223372036854775808:Int)<init)=True:=eq_true g7;rw[decide_eq_true g7]at hR
  cases q0:(init==0)<;>cases q1:(kind==1)<;>cases q2:(kind==2)
  all_goals
   rw[q0,q1,q2]at hR;subst hR;simp only[go_sem,f7,q0,q1,q2,gt_iff_lt];exact Ap rfl rfl
 .have f7:((-9223372036854775808:Int)<init)=False:=eq_false g7;rw[decide_eq_false g7]at hR;subst hR;simp only[go_sem,f7,gt_iff_lt];exact Ap rfl rfl
set_option maxHeartbeats 1000000 in
def A69(p:Gp)(hb:C2 p.row<=1000000000):Fn TT PT 43 [.agg p.row] (.bool (shG p)):=by
 obtain⟨dz,dt,decls,tz,tt,thrs⟩:=p;rw[Ah0]at hb;simp only at hb;have b1:=Jp (f:=Dp.row) (fun x=>by rw[Bav];omega) decls;have b2:=Jp (f:=Tp.row) (fun x=>by rw[Yp];omega) thrs;have n1:(decls.map Dp.row).length=decls.length:=Ba ..;have n2:(thrs.map Tp.row).length=thrs.length:=Ba ..;obtain⟨R,hR⟩:∃ b,b=shG ⟨dz,dt,decls,tz,tt,thrs⟩:=⟨_,rfl⟩;rw[<-hR];unfold shG at hR;simp only at hR;unfold Gp.row;simp only;refine Bz T43 rfl ?_;simp only[go_sem];refine B3 (α:=Nat) (fun i=>decls.length - i) (fun i=>[(1,.ptr 0 0 0),(3,iV (i:Int))]) (fun _=>[.row [SL dz dt (decls.map Dp.row),SL tz tt (thrs.map Tp.row)] 28 0 0]) (fun i=>i<=decls.length/\decls.all S8=(decls.drop i).all S8) ?_ 0 ⟨A0 _,rfl⟩;rintro i ⟨hi,hc⟩ ih;refine B4 (by delta lp43_0;exact rfl) ?_;rcases Bu i decls.length with h' | h'
 .obtain⟨x,hx,hd,hm⟩:=C3 h';rw[hd,As]at hc;have hf:=A68 x;have qc:x.row=[iV x.kind,iV x.line,.str x.nm,iV x.size,iV x.init,.str x.on]:=rfl;rw[qc]at hf;cases hx1:S8 x
  .rw[hx1]at hf hc;obtain rfl:R=false:=by rw[hR,hc];rfl
   simp only[go_sem,n1,Bx h',Av,hx,qc];refine Ad hf (by simp only[go_sem]) ?_;simp only[go_sem,Ax];exact Ap rfl rfl
  .rw[hx1]at hf hc;simp only[go_sem,n1,Bx h',Av,hx,qc];refine Ad hf (by simp only[go_sem]) ?_;simp only[go_sem,Ar,Bk (show i<9223372036854775807 by omega)];exact Bg (ih (i+1) (by omega) ⟨h',by simpa using hc⟩) rfl
 .rw[Ge h']at hc;rw[hc]at hR;clear ih hc hi;simp only[go_sem,n1,Ck h'];refine B3 (α:=Nat × St) (fun a=>thrs.length - a.1) (fun a=>[(1,.ptr 0 0 0),(4,iV (a.1:Int))]) (fun a=>a.2) (fun a=>a.1<=thrs.length/\a.2[0]?=some (.row [SL dz dt (decls.map Dp.row),SL tz tt (thrs.map Tp.row)] 28 0 0)/\thrs.all Y8=(thrs.drop a.1).all Y8) ?_ (0,_) ⟨A0 _,rfl,rfl⟩;rintro⟨i,s⟩ ⟨hi,hs,hc⟩ ih;simp only at hi hc hs ih;refine B4 (by delta lp43_2;exact rfl) ?_;rcases Bu i thrs.length with h' | h'
  .obtain⟨x,hx,hd,hm⟩:=C3 h';rw[hd,As]at hc;have jy:=Io (f:=Tp.row) hm;obtain⟨nm,line,lz,lt,locals,bz,bt,body⟩:=x;rw[Yp]at jy;simp only at jy;have b3:=Jp (f:=fun s=>[V.str s]) (fun x=>by simp only[C2,V.bulk];omega) locals;have b4:=Jp (f:=Sp.row) (fun x=>by rw[L9];omega) body;have n3:(locals.map fun s=>[V.str s]).length=locals.length:=Ba ..;have jd:Y8 ⟨nm,line,lz,lt,locals,bz,bt,body⟩=false->R=false:=fun h=>by rw[hR,hc,h];rfl
   have jb:Y8 ⟨nm,line,lz,lt,locals,bz,bt,body⟩=(locals.all Bv&&(Bv nm&&Jk body)):=rfl;have qc:Tp.row ⟨nm,line,lz,lt,locals,bz,bt,body⟩=[.str nm,iV line,SL lz lt (locals.map fun x=>[V.str x]),SL bz bt (body.map Sp.row)]:=rfl;obtain⟨s',jq⟩:∃ s',s'=s++[Ob.row [.str nm,iV line,SL lz lt (locals.map fun x=>[V.str x]),SL bz bt (body.map Sp.row)] 51 0 0]:=⟨_,rfl⟩;have k1:s'[s.length]?=some (.row [.str nm,iV line,SL lz lt (locals.map fun x=>[V.str x]),SL bz bt (body.map Sp.row)] 51 0 0):=by rw[jq,Cd (Ai _),Hh];rfl
   have k0:s'[0]?=some (.row [SL dz dt (decls.map Dp.row),SL tz tt (thrs.map Tp.row)] 28 0 0):=by rw[jq];exact B5 hs
   simp only[go_sem,hs,n2,Bx h',Av,hx,qc];rw[<-jq];refine B3 (α:=Nat) (fun k=>locals.length - k) (fun k=>[(1,.ptr 0 0 0),(4,iV (i:Int)),(5,.ptr s.length 0 0),(6,iV (k:Int))]) (fun _=>s') (fun k=>k<=locals.length/\locals.all Bv=(locals.drop k).all Bv) ?_ 0 ⟨A0 _,rfl⟩;rintro k ⟨hk,hl⟩ jh;refine B4 (by delta lp43_1;exact rfl) ?_;rcases Bu k locals.length with g' | g'
   .obtain⟨y,hy,qJ,kf⟩:=C3 g';rw[qJ,As]at hl;have hf:=Rz y;cases hy1:Bv y
    .rw[hy1]at hf hl;obtain rfl:=jd (by rw[jb,hl];rfl);simp only[go_sem,k1,n3,Bx g',Av,hy];refine Ad hf (by simp only[go_sem]) ?_;simp only[go_sem,Ax];exact Ap rfl rfl
    .rw[hy1]at hf hl;simp only[go_sem,k1,n3,Bx g',Av,hy];refine Ad hf (by simp only[go_sem]) ?_;simp only[go_sem,Ar,Bk (show k<9223372036854775807 by omega)];exact Bg (jh (k+1) (by omega) ⟨g',by simpa using hl⟩) rfl
   .rw[Ge g']at hl;clear jh;have qQ:=Rz nm;have qX:=Aex bz bt body (by omega) fun y hy=>Ag7 1000000000 y (by have:=Io (f:=Sp.row) hy;omega) (Ai _)
    cases hn1:Bv nm
    .rw[hn1]at qQ;obtain rfl:=jd (by rw[jb,hn1];simp);simp only[go_sem,k1,n3,Ck g'];refine Ad qQ (by simp only[go_sem]) ?_;simp only[go_sem,Ax];exact Ap rfl rfl
    .rw[hn1]at qQ;cases hb1:Jk body
     .rw[hb1]at qX;obtain rfl:=jd (by rw[jb,hb1];simp);simp only[go_sem,k1,n3,Ck g'];refine Ad qQ (by simp only[go_sem]) ?_;simp only[go_sem,Ar,k1];refine Ad qX (by simp only[go_sem]) ?_;simp only[go_sem,Ax];exact Ap rfl rfl
     .rw[hb1]at qX;simp only[go_sem,k1,n3,Ck g'];refine Ad qQ (by simp only[go_sem]) ?_;simp only[go_sem,Ar,k1];refine Ad qX (by simp only[go_sem]) ?_;simp only[go_sem,Ar,Bk (show i<9223372036854775807 by omega)];refine Bg (ih (i+1,s') (by simp;omega) ⟨by simp;omega,k0,?_⟩) rfl;simp only;rw[hc,jb,hl,hn1,hb1];simp
  .rw[Ge h']at hc;rw[hc]at hR;by_cases hn:thrs.length=0
   .obtain rfl:R=false:=by
     rw[hR,V8.1 hn];rfl
    have f1:((0:Int)<(thrs.length:Int))=False:=eq_false (by omega);simp only[go_sem,hs,n2,Ck h',gt_iff_lt,f1];exact Ap rfl rfl
   .obtain rfl:R=true:=by
     rw[hR]
     cases thrs with
     | nil=>exact absurd rfl hn
     | cons a l=>rfl
    have f1:((0:Int)<(thrs.length:Int))=True:=eq_true (by omega);simp only[go_sem,hs,n2,Ck h',gt_iff_lt,f1];exact Ap rfl rfl
variable {T:Nat->Option AF} {pr:Nat->Option (List V->Option V)}
inductive LXt (qa:List (List Nat)) (n:Nat):List Nat->List Nat->Prop
 | nil {qb:List Nat}:qb.length=n->LXt qa n qb []
 | cons {qb:List Nat} {i:Nat} {L:List Nat}:i<n->i ∉ qb->(∀ d∈qa.getD i [],d∈qb)->LXt qa n (i::qb) L->LXt qa n qb (i::L)
def Aq1{qa:List (List Nat)}{n:Nat}(hn:qa.length=n)(qB:∀ j,j<n->∀ d∈qa.getD j [],d<j):∀ (fuel t:Nat) (qb:List Nat),qb.length+fuel=n->qb.Nodup->(∀ i∈qb,i<n)->LXt qa n qb (Mv qa fuel t qb)
 | 0,t,qb,hl,_,_=>.nil (by omega)
 | fuel+1,t,qb,hl,hnd,qr=>by
  have qT:∃ j,j<n/\j ∉ qb/\∀ d∈qa.getD j [],d∈qb:=by
   have jS:∃ j,j<n/\j ∉ qb:=by
    rcases Classical.em (∃ j,j<n/\j ∉ qb) with h | h
    .exact h
    .exfalso;have qF:∀ j,j<n->j∈qb:=fun j hj=>Classical.byContradiction fun hc=>h ⟨j,hj,hc⟩
     have h1:=Z8 n qb qF;omega
   have:∀ k,∀ j,j<=k->j<n->j ∉ qb->∃ j,j<n/\j ∉ qb/\∀ d∈qa.getD j [],d∈qb:=by
    intro k
    induction k with
    | zero=>
     intro j hj h1 h2;obtain rfl:j=0:=by omega
     exact⟨0,h1,h2,fun d hd=>absurd (qB 0 h1 d hd) (by omega)⟩
    | succ k ih=>
     intro j hj h1 h2;by_cases ql:∀ d∈qa.getD j [],d∈qb
     .exact⟨j,h1,h2,ql⟩
     .obtain⟨d,hd,qO⟩:∃ d,d∈qa.getD j []/\d ∉ qb:=Classical.byContradiction fun hc=>ql fun d hd=>Classical.byContradiction fun qO=>hc ⟨d,hd,qO⟩
      have:=qB j h1 d hd;exact ih d (by omega) (by omega) qO
   obtain⟨j,h1,h2⟩:=jS;exact this j j (Ai _) h1 h2
  unfold Mv;generalize jG:(List.range qa.length).filter (K7 qa qb)=rs
  have qS:0<rs.length:=by
   obtain⟨j,h1,h2,h3⟩:=qT
   have:j∈rs:=by
    rw[<-jG,Tl];refine⟨by rw[En,hn];exact h1,?_⟩;simp only[K7,Af,I5,Bh];refine⟨?_,fun d hd=>Hg.2 (h3 d hd)⟩
    cases qP:qb.elem j with
    | false=>rfl
    | true=>exact absurd (Hg.1 qP) h2
   exact Adl this
  have qC:rs[t % rs.length]?=some (rs[t % rs.length]'(Pt _ qS)):=A2 _;generalize rs[t % rs.length]'(Pt _ qS)=i at qC;rw[qC];have qZ:i∈rs:=Hx qC;rw[<-jG,Tl]at qZ;obtain⟨jA,qh⟩:=qZ;have hi:i<n:=by rw[En,hn]at jA;exact jA
  simp only[K7,Af,I5,Bh]at qh;have qn:i ∉ qb:=fun h=>by rw[Hg.2 h]at qh;cases qh.1
  have qf:∀ d∈qa.getD i [],d∈qb:=fun d hd=>Hg.1 (qh.2 d hd)
  exact .cons hi qn qf (Aq1 hn qB fuel _ (i::qb) (by simp;omega) (Zr.2 ⟨qn,hnd⟩) (fun j hj=>by
   rcases Bi.1 hj with rfl | hj
   .exact hi
   .exact qr j hj))
section
variable {qa:List (List Nat)} {ops:List AI} {e e1:Env} {σ σ1:St} {qL:Nat->Env} {st:Nat->St} {val:Nat->V} {ro:Nat->Option (St->Prop)}
def Anf(qp:StaP qa ops)(q:Sr T pr qa ops.length 0 ops e σ [] [] e1 σ1 qL st val ro):∀ (L qb:List Nat) (E:Env) (S':St),LXt qa ops.length qb L->qb.Nodup->(∀ i∈qb,i<ops.length)->DC qa qb ->
  EnvOK ops val e (·∈qb) E->Vy ops ro st qb S'->∃ E',Ev T pr (.ops (Dk ops L) E S' E' σ1)/\∀ m,E'.get m=e1.get m
 | [],qb,E,S',.nil hl,hn,qr,hdc,hE,⟨m,hm,hS,heff⟩=>by
  have ql:∀ j,j<ops.length->j∈qb:=fun j hj=>Ap9 hn qr (by omega) hj
  refine⟨E,?_,fun k=>?_⟩
  .have jt:S'=σ1:=by
    rw[hS,<-q.s1,Fc];obtain⟨d,hd⟩:∃ d,m+d=ops.length:=⟨ops.length - m,by omega⟩;rw[<-hd];refine(Mm q id d m (by omega) (fun k h1 h2 he=>?_)).symm;have:=(heff k he).2 (ql k (by omega));omega
   rw[jt];exact .opsNil
  .have ht:=Wt q ops.length (Ai _);have jz:=q.e1;rw[Fc]at jz;rw[<-jz];exact hE.same ht (fun j hj=>⟨fun h=>qr j h,fun h=>ql j h⟩)
 | i::L,qb,E,S',.cons hi qn qf hL,hn,qr,hdc,hE,⟨m,hm,hS,heff⟩=>by
  obtain⟨x,hx⟩:∃ x,ops[i]?=some x:=⟨ops[i],A2 hi⟩
  have jI:∀ j y,i<j->ops[j]?=some y->j∈qb->L0 x y=true:=fun j y jk hy hj=>by
   rcases qp.pair i j x y jk hx hy with h | h
   .exact absurd (P5 hdc _ j i h hj) qn
   .exact h
  have jR:∀ j y,j<i->ops[j]?=some y->j ∉ qb->L0 y x=true:=fun j y jk hy hj=>by
   rcases qp.pair j i y x jk hy hx with h | h
   .exact absurd (Tz hdc qf h) hj
   .exact h
  have qj:∀ {j t:Nat},My ops j=some t->∃ y,ops[j]?=some y/\y.dst=some t:=fun {j t} h=>by
   unfold My at h
   cases hy:ops[j]? with
   | none=>rw[hy]at h;simp at h
   | some y=>rw[hy]at h;exact⟨y,rfl,by simpa using h⟩
  have qs:Agree (qL i) E x.rd:=fun t ht=>by
   refine(Wt q i (by omega)).same hE (fun j hj=>?_);obtain⟨y,hy,qJ⟩:=qj hj;constructor
   .intro qv;rcases Classical.em (j∈qb) with h | h
    .exact h
    .have:=jR j y qv hy h;simp only[L0,qJ,Af,I5]at this;have h1:=this.1.1;rw[Hg.2 ht]at h1;cases h1
   .intro jB;rcases Rk j i with h | h | h
    .exact h
    .subst h;exact absurd jB qn
    .have:=jI j y h hy jB;simp only[L0,qJ,Af,I5]at this;have h1:=this.2;rw[Hg.2 ht]at h1;cases h1
  obtain⟨jj,qd⟩:=q.stp i x hx;simp only[Fc]at jj qd
  have jL:EnvOK ops val e (·∈i::qb) (E.putO x.dst (val i)):=(hE.put hx (fun j t hj jZ jT=>by
   obtain⟨y,hy,qJ⟩:=qj jT;rcases Rk j i with h | h | h
   .exact h
   .subst h;exact absurd hj qn
   .have:=jI j y h hy hj;simp only[L0,jZ,qJ,Af,I5]at this;have h1:=this.1.2
    simp at h1)).iff (fun j=>by simp[Bi])
  have ji:DC qa (i::qb):=fun j hj d hd=>by
   rcases Bi.1 hj with rfl | hj
   .exact Cs _ (qf d hd)
   .exact Cs _ (hdc j hj d hd)
  have next:∀ S2,Vy ops ro st (i::qb) S2->Sg T pr x E S' (val i) S2->∃ E',Ev T pr (.ops (Dk ops (i::L)) E S' E' σ1)/\∀ m,E'.get m=e1.get m:=fun S2 je ju=>by
   obtain⟨E',h1,h2⟩:=Anf qp q L (i::qb) _ S2 hL (Zr.2 ⟨qn,hn⟩) (fun j hj=>by
    rcases Bi.1 hj with rfl | hj
    .exact hi
    .exact qr j hj) ji jL je
   refine⟨E',?_,h2⟩
   have:Dk ops (i::L)=x::Dk ops L:=by
    unfold Dk;rw[Lj,hx]
   rw[this];exact ju.ev h1
  have hb:=Aqb qp.dep
  cases hro:ro i with
  | none=>
   rw[hro]at qd;have qd:Sg T pr x (qL i) (st i) (val i) (st (i+1)):=qd
   have qt:∀ k,Vu ops ro k->(k∈qb↔k<i):=fun k ⟨jm,ja⟩=>by
    constructor
    .intro hk;rcases Rk k i with h | h | h
     .exact h
     .subst h;exact absurd hk qn
     .have:=q.d0 i k h jm (by simpa using hro) (by simpa using ja);simp only[Fc]at this;exact absurd (P5 hdc _ k i this hk) qn
    .intro hk;have:=q.d0 k i hk hi (by simpa using ja) (by simpa using hro);simp only[Fc]at this;exact Tz hdc qf this
   have jM:S'=st i:=by
    rw[hS];rcases Ad2 m i with qD | qD
    .obtain⟨d,rfl⟩:=Rg qD
     exact(Mm q id d m (by omega) (fun k a1 a2 he=>by
      have:=(heff k he).2 ((qt k he).2 a2)
      omega)).symm
    .obtain⟨d,rfl⟩:=Rg qD
     exact Mm q id d i (by omega) (fun k a1 a2 he=>by
      have:=(qt k he).1 ((heff k he).1 a2)
      omega)
   rw[jM]at next ⊢
   refine next (st (i+1)) ⟨i+1,by omega,rfl,fun k he=>?_⟩ (qd.move qs)
   rw[Bi,qt k he];omega
  | some R=>
   rw[hro]at qd;obtain⟨ka,jC,jV⟩:st (i+1)=st i/\R (st i)/\∀ s',R s'->Sg T pr x (qL i) s' (val i) s':=qd
   have je:Vy ops ro st (i::qb) S':=⟨m,hm,hS,fun k he=>by
    rw[heff k he,Bi];constructor
    .exact .inr
    .rintro(rfl | h)
     .rw[he.2]at hro;cases hro
     .exact h⟩
   refine next S' je ((jV S' ?_).move qs)
   have qR:∀ k,Vu ops ro k->(k∈qb/\i<k\/k ∉ qb/\k<i)->R (st (k+1))=R (st k):=fun k ⟨jm,ja⟩ hk=>by
    have hd:=q.d1 i k R hi jm (by simpa using hro) (by simpa using ja);simp only[Fc]at hd;rcases hd with h | h | h
    .have qH:=Tz hdc qf h;rcases hk with⟨_,qv⟩ | ⟨hk,_⟩
     .have:=hb _ i k hi h;omega
     .exact absurd qH hk
    .rcases hk with⟨hk,_⟩ | ⟨hk,qv⟩
     .exact absurd (P5 hdc _ k i h hk) qn
     .have:=hb _ k i (by omega) h;omega
    .exact propext h
   rw[hS];rcases Ad2 m i with qD | qD
   .obtain⟨d,rfl⟩:=Rg qD
    have:=Mm q R d m (by omega) (fun k a1 a2 he=>qR k he (.inr ⟨fun qH=>by
     have:=(heff k he).2 qH
     omega,a2⟩))
    rw[<-this];exact jC
   .obtain⟨d,rfl⟩:=Rg qD
    have:=Mm q R d i (by omega) (fun k a1 a2 he=>by
     have qH:=(heff k he).1 a2;rcases Nat.eq_or_lt_of_le a1 with rfl | h
     .exact absurd qH qn
     .exact qR k he (.inl ⟨qH,h⟩))
    rw[this];exact jC
def Ayu(qp:M0 qa ops=true)(h:TG T pr qa ops.length 0 ops e σ [] [] e1 σ1){L:List Nat}(hL:LXt qa ops.length [] L):∃ E',Ev T pr (.ops (Dk ops L) e σ E' σ1)/\∀ m,E'.get m=e1.get m:=by
 obtain⟨qL,st,val,ro,q⟩:=h.sr;exact Anf (Aoh qp) q L [] e σ hL Tm (fun i hi=>by cases hi) (fun j hj=>by cases hj) (fun t=>.inr ⟨(fun j hj=>by cases hj),rfl⟩) ⟨0,A0 _,q.s0.symm,fun j _=>by simp⟩
end
def V6(L:List Nat)(a b:Nat):Prop:=∀ L1 L2,L=L1++b::L2->a∈L1
def A7a{L:List Nat}{a b:Nat}(qq:a≠b):V6 L a b\/V6 L b a:=by
 rcases Classical.em (V6 L a b) with h | h
 .exact .inl h
 .refine .inr ?_;unfold V6 at h;obtain⟨L1,h⟩:=Classical.not_forall.1 h;obtain⟨L2,h⟩:=Classical.not_forall.1 h;obtain⟨h1,h2⟩:=Classical.not_imp.1 h;intro M1 M2 h3;rw[h1]at h3;rcases List.append_eq_append_iff.1 h3 with⟨c,rfl,h4⟩ | ⟨c,rfl,h4⟩
  .cases c with
   | nil=>simp at h4;exact absurd h4.1.symm qq
   | cons x c=>simp at h4;simp[h4.1]
  .cases c with
   | nil=>simp at h4;exact absurd h4.1 qq
   | cons x c=>simp at h4;exact absurd (by simp[h4.1]) h2
def DR(T:Nat->Option AF)(pr:Nat->Option (List V->Option V))(qa:List (List Nat))(X:List (Nat × Nat))(ops:List AI)(e:Env)(σ:St)(e1:Env)(σ1:St):Prop:=
 ∀ L,LXt qa ops.length [] L->(∀ p∈X,V6 L p.1 p.2)->∃ E',Ev T pr (.ops (Dk ops L) e σ E' σ1)/\∀ m,E'.get m=e1.get m
section
variable {qa:List (List Nat)} {ops:List AI} {e e1:Env} {σ σ1:St} {X:List (Nat × Nat)}
def Ayv(a b:Nat)(qq:a≠b)(h1:DR T pr qa ((a,b)::X) ops e σ e1 σ1)(h2:DR T pr qa ((b,a)::X) ops e σ e1 σ1):DR T pr qa X ops e σ e1 σ1:=fun L hL hX=>by
 rcases A7a (L:=L) qq with h | h
 .exact h1 L hL fun p hp=>by
   rcases Bi.1 hp with rfl | hp
   .exact h
   .exact hX p hp
 .exact h2 L hL fun p hp=>by
   rcases Bi.1 hp with rfl | hp
   .exact h
   .exact hX p hp
def Md(P:List Nat)(i:Nat):Nat:=P.idxOf i
def Acy(qa qe:List (List Nat))(X:List (Nat × Nat))(n:Nat)(P:List Nat):Bool:=
 P.length==n&&((List.range n).all fun i=>P[Md P i]?==some i&&decide (Md P i<n)&&((qe.getD (Md P i) []).all fun d'=>((qa.getD i []).any fun d=>Md P d==d')||X.any fun p=>p.2==i&&Md P p.1==d'))
def Ang{P:List Nat}{ops qi:List AI}(ho:Dk ops P=qi)(qk:qi.length=P.length)(hP:∀ i∈P,i<ops.length):∀ L:List Nat,(∀ i∈L,P[Md P i]?=some i)->Dk qi (L.map (Md P))=Dk ops L
 | [],_=>rfl
 | i::L,h=>by
  have ih:=Ang ho qk hP L fun j hj=>h j (Cs _ hj)
  have hi:=h i Cx
  have qV:∀ (P:List Nat) (k:Nat) (i:Nat),(∀ i∈P,i<ops.length)->P[k]?=some i->(Dk ops P)[k]?=ops[i]?:=by
   intro P
   induction P with
   | nil=>intro k i _ h;simp at h
   | cons p P ihP=>
    intro k i qr h;have hp:=qr p Cx
    have:Dk ops (p::P)=ops[p]::Dk ops P:=by
     unfold Dk;rw[Lj,A2 hp]
    rw[this]
    cases k with
    | zero=>simp at h;subst h;simp
    | succ k=>simp at h ⊢;exact ihP k i (fun j hj=>qr j (Cs _ hj)) h
  have hk:=qV P (Md P i) i hP hi;rw[ho]at hk;unfold Dk at ih ⊢;rw[Aw,Lj,Lj,hk,ih]
def Apn(P:List Nat)(qe:List (List Nat))(qi:List AI)(ho:Dk ops P=qi)(qk:qi.length=ops.length)(hp:Acy qa qe X ops.length P=true)(qp:M0 qe qi=true){e2:Env}(h:TG T pr qe qi.length 0 qi e σ [] [] e2 σ1)(he:∀ m,e2.get m=e1.get m):DR T pr qa X ops e σ e1 σ1:=by
 intro L hL hX;unfold Acy at hp;simp only[Af,beq_iff_eq,Bh,En,decide_eq_true_eq,Ij,Nf]at hp;obtain⟨jD,qI⟩:=hp
 have jl:∀ i j,i<ops.length->j<ops.length->Md P i=Md P j->i=j:=fun i j hi hj h=>by
  have a:=(qI i hi).1.1;have b:=(qI j hj).1.1;rw[h,b]at a;exact(Ky a).symm
 have jv:∀ L qb,LXt qa ops.length qb L->(∀ i∈qb,i<ops.length)->(∀ p∈X,V6 (qb.reverse++L) p.1 p.2)->LXt qe ops.length (qb.map (Md P)) (L.map (Md P))/\∀ i∈L,i<ops.length:=by
  intro L
  induction L with
  | nil=>
   intro qb hl _ _
   cases hl with
   | nil hl=>exact⟨.nil (by simpa using hl),by simp⟩
  | cons i L ih=>
   intro qb hl qr hB
   cases hl with
   | cons hi qn hd hl=>
    have qv:∀ j∈i::qb,j<ops.length:=fun j hj=>by
     rcases Bi.1 hj with rfl | hj
     .exact hi
     .exact qr j hj
    obtain⟨g1,g2⟩:=ih (i::qb) hl qv (by simpa using hB)
    refine⟨.cons (qI i hi).1.2 (fun hm=>?_) (fun d' jQ=>?_) (by simpa using g1),fun j hj=>by
     rcases Bi.1 hj with rfl | hj
     .exact hi
     .exact g2 j hj⟩
    .obtain⟨j,hj,jU⟩:=De.1 hm;have:=jl j i (qr j hj) hi jU;subst this;exact qn hj
    .rcases(qI i hi).2 d' jQ with⟨d,h1,h2⟩ | ⟨p,h1,h2,h3⟩
     .exact De.2 ⟨d,hd d h1,h2⟩
     .have:=hB p h1 qb.reverse L (by rw[h2]);exact De.2 ⟨p.1,by simpa using this,h3⟩
 obtain⟨g1,g2⟩:=jv L [] hL (fun i hi=>by cases hi) (by simpa using hX);rw[<-qk]at g1;obtain⟨E',h1,h2⟩:=Ayu qp h g1;refine⟨E',?_,fun m=>(h2 m).trans (he m)⟩
 have jc:∀ i∈P,i<ops.length:=by
  have qF:∀ i,i<ops.length->i∈P:=fun i hi=>Hx (qI i hi).1.1
  intro i hi;rcases Bu i ops.length with h | h
  .exact h
  .exfalso;have h1:=Z8 ops.length (P.erase i) (fun j hj=>(List.mem_erase_of_ne (by omega)).2 (qF j hj));rw[List.length_erase,if_pos hi,jD]at h1;have:=Adl hi;omega
 rw[Ang ho (by rw[qk,jD]) jc L (fun i hi=>(qI i (g2 i hi)).1.1)]at h1;exact h1
def A7b{kill:List Nat}{k:List It}{Q:Env->St->Prop}(qp:((qa.length==ops.length)&&(List.range ops.length).all fun j=>(qa.getD j []).all fun d=>decide (d<j))=true)(h:∃ e1 σ1,DR T pr qa [] ops e σ e1 σ1/\W T pr k (e1.del kill) σ1 Q):W T pr (.c (.drw kill qa ops)::k) e σ Q:=by
 obtain⟨e1,σ1,hd,e',σ',h2,q⟩:=h;simp only[Af,beq_iff_eq,Bh,En,decide_eq_true_eq]at qp
 have qV:∀ t,∃ E',Ev T pr (.ops (Dk ops (N7 qa t)) e σ E' σ1)/\∀ m,E'.get m=e1.get m:=fun t=>by
  refine hd _ ?_ (fun p hp=>by cases hp);unfold N7;rw[Ae8];exact Aq1 qp.1 (fun j hj d hd=>qp.2 j hj d hd) qa.length t [] (by simp[qp.1]) Tm (fun i hi=>by cases hi)
 exact⟨e',σ',.cDrw (fun t=>(qV t).choose) (fun t=>(qV t).choose_spec.1) (fun t=>(qV t).choose_spec.2) h2,q⟩
end
/-! environments by their slots -/
def Yq(k:Nat)(v:V):Env->Env
 | []=>[(k,v)]
 | (m,u)::r=>if k<m then(k,v)::(m,u)::r else if k=m then(k,v)::r else(m,u)::Yq k v r
def Pb:Env->Env
 | []=>[]
 | (k,v)::r=>Yq k v (Pb r)
def Anh(k:Nat)(v:V)(n:Nat):∀ l:Env,(Yq k v l).get n=if k=n then v else l.get n
 | []=>by simp[Yq,Env.get]
 | (m,u)::r=>by
  have ih:=Anh k v n r;unfold Yq
  split
  .simp[Env.get]
  .split
   .rename_i h;subst h;simp only[Env.get]
    split<;>rfl
   .simp only[Env.get,ih]
    split
    .rename_i h1 h2 h3;subst h3;rw[if_neg h2]
    .rfl
def Aey(n:Nat):∀ e:Env,(Pb e).get n=e.get n
 | []=>rfl
 | (k,v)::r=>by
  rw[Pb,Anh,Aey n r];rfl
def Ayw{e e':Env}(h:Pb e=Pb e')(n:Nat):e.get n=e'.get n:=by rw[<-Aey n e,h,Aey]
def DE(E:Env)(S:St)(e:Env)(σ:St):Prop:=e=E/\σ=S
def DS(E:Env)(S:St)(e:Env)(σ:St):Prop:=Pb e=Pb E/\σ=S
def Baw{E:Env}{S:St}:DE E S E S:=⟨rfl,rfl⟩
def Bax{E e:Env}{S σ:St}(h:Pb e=Pb E)(h':σ=S):DS E S e σ:=⟨h,h'⟩
def A7c{qa:List (List Nat)}{ops:List AI}{kill:List Nat}{k:List It}{e:Env}{σ:St}{Q:Env->St->Prop}(a b:Nat)(P1 P2:List Nat)(d1 d2:List (List Nat)){E:Env}{S:St}
  (hp:((qa.length==ops.length)&&((List.range ops.length).all fun j=>(qa.getD j []).all fun d=>decide (d<j))&&(a==b)==false&&Acy qa d1 [(a,b)] ops.length P1&&Acy qa d2 [(b,a)] ops.length P2&&M0 d1 (Dk ops P1)&&M0 d2 (Dk ops P2)&&(Dk ops P1).length==ops.length&&(Dk ops P2).length==ops.length)=true)
  (h1:wg T pr d1 (Dk ops P1).length [] [] (DE E S) 0 (Dk ops P1) e σ [] [])
  (h2:wg T pr d2 (Dk ops P2).length [] [] (DS E S) 0 (Dk ops P2) e σ [] [])
  (h:WE T pr (E.del kill) k S Q):W T pr (.c (.drw kill qa ops)::k) e σ Q:=by
 simp only[Af,beq_iff_eq]at hp;obtain⟨⟨⟨⟨⟨⟨⟨⟨jt,ju⟩,qq⟩,p1⟩,p2⟩,s1⟩,s2⟩,l1⟩,l2⟩:=hp
 have jw:∀ {e1:Env} {σ1:St} {P:Env->St->Prop},W T pr [] (e1.del []) σ1 P->P e1 σ1:=fun {e1 σ1 P} h=>by
  have hd:∀ e:Env,e.del []=e:=fun e=>by
   induction e with
   | nil=>rfl
   | cons p r ih=>obtain⟨m,v⟩:=p;simp only[Env.del,List.elem_nil,Ez,if_false,ih]
  rw[hd,Arv]at h;exact h
 obtain⟨e1,σ1,t1,g1⟩:=Sj _ _ _ _ _ _ h1;obtain⟨rfl,rfl⟩:=jw g1;obtain⟨e2,σ2,t2,g3⟩:=Sj _ _ _ _ _ _ h2;obtain⟨g4,rfl⟩:=jw g3;refine A7b ?_ ⟨_,_,Ayv a b (by simpa using qq) (Apn P1 d1 _ rfl l1 p1 s1 t1 fun _=>rfl) (Apn P2 d2 _ rfl l2 p2 s2 t2 (Ayw g4)),h⟩;simp only[Af,beq_iff_eq];exact⟨jt,ju⟩
def GS(σ:St)(m e:Nat)(u:V)(xs:List (List V)):Prop:=
 ((∀ r∈xs,r.length=m)/\∀ r∈xs,r.all V.rowB=true)/\((u=.nils/\xs=[])\/∃ i g r q,u=.sl i g 0 xs.length m true/\σ[i]?=some (.row (xs.flatten++r) e g 0)/\r.length=q*m/\r.all V.rowB=true)
def Yb{σ:St}{m e:Nat}:GS σ m e .nils []:=⟨⟨by simp,by simp⟩,.inl ⟨rfl,rfl⟩⟩
def Ip{σ:St}{m e:Nat}{u:V}{xs:List (List V)}(h:GS σ m e u xs):u.cellB=true:=by
 rcases h.2 with⟨rfl,-⟩ | ⟨i,g,r,q,rfl,-⟩<;>rfl
def Yc{σ:St}{m e:Nat}{u:V}{xs:List (List V)}(h:GS σ m e u xs):Pg u=some (iV (xs.length:Int)):=by
 rcases h.2 with⟨rfl,rfl⟩ | ⟨i,g,r,q,rfl,-⟩<;>rfl
def Cu{σ:St}{m e:Nat}{u:V}{xs:List (List V)}(h:GS σ m e u xs):∀ i∈u.refs,i<σ.length:=by
 rcases h.2 with⟨rfl,rfl⟩ | ⟨i,g,r,q,rfl,ho,-⟩
 .intro i hi;simp[V.refs]at hi
 .intro j hj;simp[V.refs]at hj;subst hj;exact(Aq.1 ho).1
def G7{σ τ:St}{m e:Nat}{u:V}{xs:List (List V)}(h:GS σ m e u xs)(hk:∀ i∈u.refs,τ[i]?=σ[i]?):GS τ m e u xs:=by
 refine⟨h.1,?_⟩;rcases h.2 with h2 | ⟨i,g,r,q,rfl,ho,h2⟩
 .exact .inl h2
 .exact .inr ⟨i,g,r,q,rfl,by rw[hk i (by simp[V.refs])];exact ho,h2⟩
def Nj{cs:List V}(h:cs.all V.rowB=true):Am cs=[]:=K0 h
def Uv{σ:St}{m e bytes:Nat}{u:V}{xs:List (List V)}{row:List V}(h:GS σ m e u xs)(hm:0<m)(qw:row.length=m)(qc:row.all V.rowB=true)(hb:(xs.length+1)*bytes<=140737488355328):
  ∃ u' σ',Ef bytes (m,e) u (.lst 1 [row]) σ=some (u',σ')/\GS σ' m e u' (xs++[row])/\σ.length<=σ'.length/\(∀ j,j<σ.length->j ∉ u.refs->σ'[j]?=σ[j]?)/\(∀ j∈u'.refs,j∈u.refs\/σ.length<=j)/\(Cl σ->Cl σ'):=by
 obtain⟨⟨hl,hr⟩,h⟩:=h;have ql:([row].all fun r=>r.length==m)=true:=by simp[qw]
 have jn:∀ r∈xs++[row],r.length=m:=fun r hx=>by
  rcases Cr.1 hx with hx | hx
  .exact hl r hx
  .rw[E0.1 hx];exact qw
 have jp:∀ r∈xs++[row],r.all V.rowB=true:=fun r hx=>by
  rcases Cr.1 hx with hx | hx
  .exact hr r hx
  .rw[E0.1 hx];exact qc
 unfold Ef;simp only[Fy,C7];unfold J5;rw[if_pos ⟨ql,hm⟩];rcases h with⟨rfl,rfl⟩ | ⟨i,g,r,q,rfl,ho,hq,qA⟩
 .simp only;rw[if_pos (by simpa using hb),if_neg (by simp)];refine⟨_,_,rfl,⟨⟨jn,jp⟩,.inr ⟨σ.length,0,[],0,rfl,by simp,by simp,rfl⟩⟩,by simp,fun j hj _=>Ca hj,fun j hj=>?_,fun hc=>R5 hc ?_⟩
  .simp[V.refs]at hj;exact .inr (by omega)
  .simp[Ob.refs,Nj qc]
 .have hi:i<σ.length:=(Aq.1 ho).1;have hf:=Lo hl;have jg:(xs.flatten++r).length=xs.length*m+q*m:=by rw[Aj,hf,hq]
  simp only;rw[if_pos ⟨hb,trivial⟩];simp only[ho,if_true];rw[if_neg (by simp),if_pos ⟨trivial,trivial,trivial,A0 _⟩];have qE:(xs.length+[row].length)*m=xs.length*m+m:=by rw[Ih,E1]
  by_cases h0:q=0
  .subst h0;have jE:r=[]:=V8.1 (by omega);subst jE;rw[if_neg (by rw[jg,qE];omega),if_pos (by rw[jg];omega)];refine⟨_,_,rfl,⟨⟨jn,jp⟩,.inr ⟨i,g+1,[],0,by rw[Aj],?_,by simp,rfl⟩⟩,by simp,fun j hj hn=>?_,fun j hj=>.inl hj,fun hc=>Hl hc ?_⟩
   .rw[Ci hi];simp
   .have:i≠j:=fun h=>hn (by subst h;simp[V.refs])
    rw[Bj this]
   .simp only[Ob.refs,Cy];rw[K2,Nj (Mn hr)];simp[Nj qc]
  .have ke:m<=q*m:=Nat.le_mul_of_pos_left m (by omega);rw[if_pos (by rw[jg,qE];omega),qE];have e1:(xs.flatten++r).take (xs.length*m)=xs.flatten:=by rw[<-hf,Wf]
   have e2:(xs.flatten++r).drop (xs.length*m+m)=r.drop m:=by rw[<-hf,List.drop_append,Ge (by omega),Bf,Nat.add_sub_cancel_left]
   rw[e1,e2];have jF:(r.drop m).all V.rowB=true:=Bh.2 fun c hc=>Bh.1 qA c (List.mem_of_mem_drop hc)
   refine⟨_,_,rfl,⟨⟨jn,jp⟩,.inr ⟨i,g,r.drop m,q - 1,by rw[Aj],?_,?_,jF⟩⟩,by simp,fun j hj hn=>?_,fun j hj=>.inl hj,fun hc=>Hl hc ?_⟩
   .rw[Ci hi];simp
   .rw[Dx,hq,Nat.sub_mul,Nat.one_mul]
   .have:i≠j:=fun h=>hn (by subst h;simp[V.refs])
    rw[Bj this]
   .simp only[Ob.refs];rw[K2,K2,Nj (Mn hr),Nj jF];simp[Nj qc]
def A3a(n d:Nat):Eb (some (iV (n:Int))) d=some n:=by
 unfold Eb;simp
def Aq2{σ:St}{m e:Nat}{u:V}{xs:List (List V)}{row:List V}(h:GS σ m e u (xs++[row])):∃ u',Pd m u none (some (iV (xs.length:Int))) none=some u'/\GS σ m e u' xs/\u'.refs=u.refs:=by
 obtain⟨⟨hl,hr⟩,h⟩:=h;rcases h with⟨-,h⟩ | ⟨i,g,r,q,rfl,ho,hq,qA⟩
 .simp at h
 .refine⟨.sl i g 0 xs.length m true,?_,⟨⟨fun r hx=>hl r (Rj _ hx),fun r hx=>hr r (Rj _ hx)⟩,.inr ⟨i,g,row++r,q+1,rfl,?_,?_,?_⟩⟩,rfl⟩
  .simp only[Pd,A3a,Eb];simp
  .rw[ho];simp
  .rw[Aj,hq,hl row (by simp),E1,Z0]
  .rw[List.all_append,hr row (by simp),qA];rfl
def A7d{σ:St}{m e:Nat}{u:V}{xs:List (List V)}{row:List V}{i:Nat}(h:GS σ m e u xs)(hi:xs[i]?=some row):∃ j g cs,u=.sl j g 0 xs.length m true/\σ[j]?=some (.row cs e g 0)/\i*m+m<=cs.length/\(cs.drop (i*m)).take m=row:=by
 obtain⟨⟨hl,hr⟩,h⟩:=h;have qY:=(Aq.1 hi).1;rcases h with⟨-,rfl⟩ | ⟨j,g,r,q,rfl,ho,hq,qA⟩
 .simp at hi
 .have hf:=Lo hl;have kb:i*m+m<=xs.length*m:=by rw[<-E1];exact Fq m qY
  refine⟨j,g,_,rfl,ho,by rw[Aj,hf];omega,?_⟩
  have hs:xs=xs.take i++row::xs.drop (i+1):=by
   have h1:=Gr qY;rw[(Aq.1 hi).2]at h1;rw[<-h1,Li]
  have ht:(xs.take i).flatten.length=i*m:=by
   rw[Lo fun r hr=>hl r (Zd hr),Gz,Nat.min_eq_left (by omega)]
  have qw:=hl row (Hx hi)
  conv=>lhs;rw[hs]
  rw[List.flatten_append,D3,Br,Br,<-ht,List.drop_left,<-qw,Wf]
def Ah1{σ:St}{m e:Nat}{u:V}{xs:List (List V)}(h:GS σ m e u xs)(hm:0<m):∃ z,OC σ u (SL z 0 xs):=by
 obtain⟨⟨hl,hr⟩,h⟩:=h;rcases h with⟨rfl,rfl⟩ | ⟨i,g,r,q,rfl,ho,hq,qA⟩
 .exact⟨true,H3 rfl⟩
 .refine⟨false,fun js hj d=>?_⟩
  have hi:js.elem i=true:=by
   have:=hj i (by simp[V.refs]);simpa using this
  have hf:=Lo hl;unfold Fk;rw[if_neg (by simp[V.rowB])];simp only[hi,if_true,ho];rw[if_pos ⟨trivial,hm,by rw[Aj,hf];omega⟩,Ll,<-hf,Wf,R4 fun c hc=>?_]
  .simp only[Fr,Z9 hl];rfl
  .obtain⟨r,jW,jO⟩:=Zm.1 hc;exact Rp (Bh.1 (hr r jW) c jO)
def A7e(a b c cells:List V)(h:c.length=cells.length):Nw (a++(c++b)) a.length cells=some (a++(cells++b)):=by
 unfold Nw;rw[if_pos (by simp only[Aj];omega),Wf,<-Br a c b,List.drop_append];rw[Ge (by simp only[Aj];omega),Bf,Aj,<-h];simp
def A7f{σ:St}{m e:Nat}{u:V}{xs:List (List V)}{r0 row:List V}(h:GS σ m e u (xs++[r0]))(qw:row.length=m)(qc:row.all V.rowB=true):∃ j g cs',u=.sl j g 0 (xs.length+1) m true/\j<σ.length/\(∀ τ:St,τ[j]?=σ[j]?->Oy τ m (.ptr j g (0+xs.length*m)) (.agg row)=some (τ.set j (.row cs' e g 0))/\(j<τ.length->GS (τ.set j (.row cs' e g 0)) m e u (xs++[row])))/\Am cs'=[]:=by
 obtain⟨⟨hl,hr⟩,h⟩:=h;rcases h with⟨-,h⟩ | ⟨j,g,r,q,rfl,ho,hq,qA⟩
 .simp at h
 .have hf:=Lo fun r hx=>hl r (Rj _ hx)
  have jE:=hl r0 (by simp);have hx:xs.flatten.all V.rowB=true:=Mn fun r hx=>hr r (Rj _ hx)
  have qN:row.all V.cellB=true:=Aqf qc;have jP:(V.agg row).cells=row:=rfl;refine⟨j,g,xs.flatten++(row++r),by simp,(Aq.1 ho).1,fun τ hk=>⟨?_,fun hj=>⟨⟨fun r hx=>?_,fun r hx=>?_⟩,.inr ⟨j,g,r,q,by simp,?_,hq,qA⟩⟩⟩,?_⟩
  .simp only[Oy,hk,ho,jP];rw[if_pos ⟨trivial,A0 _,qw,qN⟩,Fc,<-hf];have:(xs++[r0]).flatten++r=xs.flatten++(r0++r):=by simp
   rw[this,A7e _ _ _ _ (by omega)];rfl
  .rcases Cr.1 hx with hx | hx
   .exact hl r (Rj _ hx)
   .rw[E0.1 hx];exact qw
  .rcases Cr.1 hx with hx | hx
   .exact hr r (Rj _ hx)
   .rw[E0.1 hx];exact qc
  .rw[Ci hj];simp
  .rw[K2,K2,Nj hx,Nj qc,Nj qA];rfl
/-! what a struct and its lists may change -/
def fp(σ:St)(w:Nat):List Nat:=w::match σ[w]? with
 | some ob=>ob.refs
 | none=>[]
def Ag8{σ:St}{w:Nat}{cs:List V}{t g z:Nat}(h:σ[w]?=some (.row cs t g z)):fp σ w=w::Am cs:=by
 unfold fp;rw[h];rfl
def FW(w:Nat)(σ τ:St):Prop:=σ.length<=τ.length/\(∀ j,j<σ.length->j ∉ fp σ w->τ[j]?=σ[j]?)/\(∀ j∈fp τ w,j∈fp σ w\/σ.length<=j)
def Abo(w:Nat)(σ:St):FW w σ σ:=⟨Ai _,fun _ _ _=>rfl,fun _ h=>.inl h⟩
def Fa{w:Nat}{σ τ υ:St}(h:FW w σ τ)(h':FW w τ υ):FW w σ υ:=by
 refine⟨Cz h.1 h'.1,fun j hj hn=>?_,fun j hj=>?_⟩
 .rw[h'.2.1 j (by have:=h.1;omega) fun hm=>?_,h.2.1 j hj hn];rcases h.2.2 j hm with h2 | h2
  .exact hn h2
  .omega
 .rcases h'.2.2 j hj with h2 | h2
  .exact h.2.2 j h2
  .exact .inr (by have:=h.1;omega)
def Abp{w:Nat}{σ:St}(l:St)(hw:w<σ.length):FW w σ (σ++l):=by
 refine⟨by simp,fun j hj _=>Ca hj,fun j hj=>?_⟩;unfold fp at hj ⊢;rw[Ca hw]at hj;exact .inl hj
def Aq3{w:Nat}{σ τ:St}{j:Nat}{x:Ob}(h:FW w σ τ)(hj:σ.length<=j)(hw:w<σ.length):FW w σ (τ.set j x):=by
 refine⟨by simpa using h.1,fun i hi hn=>?_,fun i hi=>?_⟩
 .rw[Bj (by omega)];exact h.2.1 i hi hn
 .unfold fp at hi;rw[Bj (by omega)]at hi;exact h.2.2 i hi
def Ag9{w:Nat}{σ τ:St}{cs:List V}{t g z:Nat}(h:FW w σ τ)(hw:w<σ.length)(hc:∀ j∈Am cs,j∈fp σ w\/σ.length<=j):FW w σ (τ.set w (.row cs t g z)):=by
 have hm:w∈fp σ w:=by unfold fp;exact Cx
 refine⟨by simpa using h.1,fun i hi hn=>?_,fun i hi=>?_⟩
 .rw[Bj (fun e=>hn (by rw[<-e];exact hm))];exact h.2.1 i hi hn
 .rw[Ag8 (Ci (by have:=h.1;omega))]at hi;rcases Bi.1 hi with rfl | hi
  .exact .inl hm
  .exact hc i hi
def Aq4{w:Nat}{σ τ υ:St}{B:List Nat}(h:FW w σ τ)(hw:w<σ.length)(hl:τ.length<=υ.length)(hB:∀ j∈B,j∈fp σ w\/σ.length<=j)(hk:∀ j,j<τ.length->j ∉ B->υ[j]?=τ[j]?)(jY:w ∉ B):FW w σ υ:=by
 refine⟨Cz h.1 hl,fun i hi hn=>?_,fun i hi=>?_⟩
 .rw[hk i (by have:=h.1;omega) fun hm=>?_,h.2.1 i hi hn];rcases hB i hm with h2 | h2
  .exact hn h2
  .omega
 .unfold fp at hi;rw[hk w (by have:=h.1;omega) jY]at hi;exact h.2.2 i hi
