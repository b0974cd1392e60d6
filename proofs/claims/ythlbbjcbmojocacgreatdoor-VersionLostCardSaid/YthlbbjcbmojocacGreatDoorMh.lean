/- Walks: which statements are shaped. -/
import Derived.Test.YthlbbjcbmojocacGreatDoorLt
set_option linter.all false
namespace Go.Proofs.YthlbbjcbmojocacGreatDoor.KM
open Go
set_option maxHeartbeats 2000000 in
def A3t(s:Sp)(hi:∀ x∈s.idx,Fn TT PT 188 [.agg x.row] (.bool (G6 x)))(he:Fn TT PT 188 [.agg s.ex.row] (.bool (G6 s.ex)))(qP:s.ex.l.length<=1000000000)(qY:s.idx.length<=1000000000)(jN:s.body.length<=1000000000)(jX:s.els.length<=1000000000)
  (hb:Fn TT PT 131 [SL s.bz s.bt (s.body.map Sp.row)] (.bool (J8 s.body))) (hs:Fn TT PT 131 [SL s.ez s.et (s.els.map Sp.row)] (.bool (J8 s.els))):Fn TT PT 161 [.agg s.row] (.bool (N4 s)):=by
 obtain⟨op,line,nm,arg,iz,it,idx,ex,bz,bt,body,ez,et,els⟩:=s;have hr:=Q4 ⟨op,line,nm,arg,iz,it,idx,ex,bz,bt,body,ez,et,els⟩;have hR:=A8j ⟨op,line,nm,arg,iz,it,idx,ex,bz,bt,body,ez,et,els⟩;generalize N4 ⟨op,line,nm,arg,iz,it,idx,ex,bz,bt,body,ez,et,els⟩=R at hR ⊢;have qx:=A3r ex qP;simp only at hr hR hi he hb hs qY jN jX qP;rw[hr];clear hr;have qU:=Bf ex;rw[qU]at he qx ⊢;unfold Ali at hR;simp only at hR;generalize ex.op=xo at he qx ⊢;generalize ex.n=xn at he qx ⊢;generalize ex.nm=xm at he qx ⊢;generalize ex.z=xz at he qx ⊢;generalize ex.t=xt at he qx ⊢;generalize ex.l=xl at he qx qP ⊢;clear qU;simp only[Hz,Cr];obtain⟨A3,h3⟩:∃ b,b=(if Gg op then nm==[] else Cc nm):=⟨_,rfl⟩;obtain⟨A4,h4⟩:∃ b,b=(if op=15 then Cc arg else arg==[]):=⟨_,rfl⟩;obtain⟨A5,h5⟩:∃ b,b=decide (idx.length<=1):=⟨_,rfl⟩;obtain⟨A6,h6⟩:∃ b,b=(op==1||idx.isEmpty):=⟨_,rfl⟩;obtain⟨A7,h7⟩:∃ b,b=idx.all G6:=⟨_,rfl⟩;obtain⟨A8,h8⟩:∃ b,b=(if Ei op then G6 ex else Adx ex):=⟨_,rfl⟩;obtain⟨A9,h9⟩:∃ b,b=(B4 op||body.isEmpty):=⟨_,rfl⟩;obtain⟨A10,jx⟩:∃ b,b=(op==2||els.isEmpty):=⟨_,rfl⟩;rw[<-h3,<-h4,<-h5,<-h6,<-h7,<-h8,<-h9,<-jx]at hR;obtain⟨B1,jJ⟩:∃ b,b=J8 body:=⟨_,rfl⟩;obtain⟨B2,jK⟩:∃ b,b=J8 els:=⟨_,rfl⟩;rw[<-jJ]at hR hb;rw[<-jK]at hR hs;have qg:(idx.map Xp.row).length=idx.length:=Ap ..;have qu:(body.map Sp.row).length=body.length:=Ap ..;have qz:(els.map Sp.row).length=els.length:=Ap ..;have qy:=Tg nm;have jf:=Tg arg;refine Bo T161 rfl ?_;refine F0 (fun e σ=>e=[(1,.ptr 0 0 0)]/\σ=[.row [iV op,iV line,.str nm,.str arg,SL iz it (idx.map Xp.row),iV xo,iV xn,.str xm,SL xz xt (xl.map Xp.row),SL bz bt (body.map Sp.row),SL ez et (els.map Sp.row)] 104 0 0]) (fun k' hk=>?_) ?_
 .simp only[go_sem];exact hk _ _ ⟨rfl,rfl⟩
 rintro e σ ⟨rfl,rfl⟩;refine F0 (fun e σ=>(e=[(1,.ptr 0 0 0)]/\σ=[.row [iV op,iV line,.str nm,.str arg,SL iz it (idx.map Xp.row),iV xo,iV xn,.str xm,SL xz xt (xl.map Xp.row),SL bz bt (body.map Sp.row),SL ez et (els.map Sp.row)] 104 0 0])/\(1<=op/\op<=15)/\R=((A3&&(A4&&(A5&&(A6&&(A7&&(A8&&(A9&&(A10))))))))&&(B1&&B2))) (fun k' hk=>?_) ?_
 .by_cases g1:op<1
  .rw[decide_eq_false (show ¬ 1<=op by omega)]at hR;subst hR;have f1:(op<1)=True:=eq_true g1;simp only[go_sem,f1];exact An rfl rfl
  have f1:(op<1)=False:=eq_false g1;rw[decide_eq_true (show 1<=op by omega)]at hR;by_cases g2:15<op
  .rw[decide_eq_false (show ¬ op<=15 by omega)]at hR;subst hR;have f2:((15:Int)<op)=True:=eq_true g2;simp only[go_sem,f1,f2,gt_iff_lt];exact An rfl rfl
  have f2:((15:Int)<op)=False:=eq_false g2;rw[decide_eq_true (show op<=15 by omega)]at hR;simp only[go_sem,f1,f2,gt_iff_lt];exact hk _ _ ⟨⟨rfl,rfl⟩,⟨by omega,by omega⟩,by rw[hR];rfl⟩
 clear hR;rintro e σ ⟨⟨rfl,rfl⟩,kc,hR⟩;refine F0 (fun e σ=>e=[(1,.ptr 0 0 0),(3,.bool (Gg op))]/\σ=[.row [iV op,iV line,.str nm,.str arg,SL iz it (idx.map Xp.row),iV xo,iV xn,.str xm,SL xz xt (xl.map Xp.row),SL bz bt (body.map Sp.row),SL ez et (els.map Sp.row)] 104 0 0]) (fun k' hk=>?_) ?_
 .unfold Gg at hk;cases q2:(op==2);rotate_left
  .simp only[go_sem,q2];exact hk _ _ ⟨by rw[q2];rfl,rfl⟩
  cases q3:(op==3);rotate_left
  .simp only[go_sem,q2,q3];exact hk _ _ ⟨by rw[q2,q3];rfl,rfl⟩
  cases q7:(op==7);rotate_left
  .simp only[go_sem,q2,q3,q7];exact hk _ _ ⟨by rw[q2,q3,q7];rfl,rfl⟩
  cases q8:(op==8)
  .simp only[go_sem,q2,q3,q7,q8];exact hk _ _ ⟨by rw[q2,q3,q7,q8];rfl,rfl⟩
  .simp only[go_sem,q2,q3,q7,q8];exact hk _ _ ⟨by rw[q2,q3,q7,q8];rfl,rfl⟩
 rintro e σ ⟨rfl,rfl⟩;refine F0 (fun e σ=>(e=[(1,.ptr 0 0 0)]/\σ=[.row [iV op,iV line,.str nm,.str arg,SL iz it (idx.map Xp.row),iV xo,iV xn,.str xm,SL xz xt (xl.map Xp.row),SL bz bt (body.map Sp.row),SL ez et (els.map Sp.row)] 104 0 0])/\R=((A4&&(A5&&(A6&&(A7&&(A8&&(A9&&(A10)))))))&&(B1&&B2))) (fun k' hk=>?_) ?_
 .cases hn:Gg op
  .rw[hn,if_neg (by simp)]at h3;rw[<-h3]at qy;cases A3
   .subst hR;simp only[go_sem,A1,Ay];refine Ad qy rfl ?_;simp only[go_sem,A1,Ay];exact An rfl rfl
   .simp only[go_sem,A1,Ay];refine Ad qy rfl ?_;simp only[go_sem,A1,Ay];exact hk _ _ ⟨⟨rfl,rfl⟩,by rw[hR];rfl⟩
  .rw[hn,if_pos rfl]at h3;have h3:=h3.symm;cases A3
   .subst hR;simp only[go_sem,A1,Ay,h3];exact An rfl rfl
   .simp only[go_sem,A1,Ay,h3];exact hk _ _ ⟨⟨rfl,rfl⟩,by rw[hR];rfl⟩
 clear hR;rintro e σ ⟨⟨rfl,rfl⟩,hR⟩;refine F0 (fun e σ=>(e=[(1,.ptr 0 0 0)]/\σ=[.row [iV op,iV line,.str nm,.str arg,SL iz it (idx.map Xp.row),iV xo,iV xn,.str xm,SL xz xt (xl.map Xp.row),SL bz bt (body.map Sp.row),SL ez et (els.map Sp.row)] 104 0 0])/\R=((A5&&(A6&&(A7&&(A8&&(A9&&(A10))))))&&(B1&&B2))) (fun k' hk=>?_) ?_
 .by_cases qW:op=15
  .rw[if_pos qW]at h4;rw[<-h4]at jf;have qK:(op==15)=true:=by simp[qW]
   cases A4
   .subst hR;simp only[go_sem,A1,Ay,qK,bne];refine Ad jf rfl ?_;simp only[go_sem,A1,Ay];exact An rfl rfl
   .simp only[go_sem,A1,Ay,qK,bne];refine Ad jf rfl ?_;simp only[go_sem,A1,Ay,qK,bne];exact hk _ _ ⟨⟨rfl,rfl⟩,by rw[hR];rfl⟩
  .rw[if_neg qW]at h4;have h4:=h4.symm;have qK:(op==15)=false:=by simp[qW]
   cases A4
   .subst hR;simp only[go_sem,A1,Ay,h4,qK,bne];exact An rfl rfl
   .simp only[go_sem,A1,Ay,h4,qK,bne];exact hk _ _ ⟨⟨rfl,rfl⟩,by rw[hR];rfl⟩
 clear hR;rintro e σ ⟨⟨rfl,rfl⟩,hR⟩;refine F0 (fun e σ=>(e=[(1,.ptr 0 0 0)]/\σ=[.row [iV op,iV line,.str nm,.str arg,SL iz it (idx.map Xp.row),iV xo,iV xn,.str xm,SL xz xt (xl.map Xp.row),SL bz bt (body.map Sp.row),SL ez et (els.map Sp.row)] 104 0 0])/\R=((A8&&(A9&&(A10)))&&(B1&&B2))) (fun k' hk=>?_) ?_
 .have hN:idx.length=0\/idx.length=1\/2<=idx.length:=by omega
  rcases hN with h | h | h
  .have qm:idx=[]:=Qp.1 h;have f1:((1:Int)<(idx.length:Int))=False:=eq_false (by omega);have f2:((0:Int)<(idx.length:Int))=False:=eq_false (by omega);have f3:((idx.length:Int)==1)=false:=by simp[h]
   rw[h5,h6,h7]at hR
   have hR:R=((A8&&(A9&&A10))&&(B1&&B2)):=by rw[hR,qm];cases(op==1)<;>rfl
   cases q1:(op==1)
   .simp only[go_sem,A1,Ay,q1,bne,qg,f1,f2,f3,gt_iff_lt];exact hk _ _ ⟨⟨rfl,rfl⟩,hR⟩
   .simp only[go_sem,A1,Ay,q1,bne,qg,f1,f2,f3,gt_iff_lt];exact hk _ _ ⟨⟨rfl,rfl⟩,hR⟩
  .obtain⟨a,qm⟩:=Afp.1 h;have f1:((1:Int)<(idx.length:Int))=False:=eq_false (by omega);have f2:((0:Int)<(idx.length:Int))=True:=eq_true (by omega);have f3:((idx.length:Int)==1)=true:=by simp[h]
   have qU:=Bf a;have qM:=Du a;have hf:=hi a (by rw[qm];exact Eo.2 rfl);have qG:(idx.map Xp.row)[0]?=some [iV a.op,iV a.n,.str a.nm,SL a.z a.t (a.l.map Xp.row)]:=by rw[qm,<-qU];rfl
   rw[qU]at hf qM;have h5:A5=true:=by rw[h5,qm];rfl
   have h7:A7=G6 a:=by rw[h7,qm,Aw,Bi,U5]
   have h6:A6=(op==1):=by rw[h6,qm];simp
   rw[h5,h6,h7]at hR;cases q1:(op==1)
   .rw[q1]at hR;subst hR;simp only[go_sem,A1,Ay,q1,bne,qg,f1,f2,f3,gt_iff_lt];exact An rfl rfl
   rw[q1]at hR;cases qq:G6 a
   .rw[qq]at hR hf;subst hR;simp only[go_sem,A1,Ay,q1,bne,qg,f1,f2,f3,gt_iff_lt,qG];refine Ad hf (by simp only[go_sem]) ?_;simp only[go_sem,A1,Ay];exact An rfl rfl
   .rw[qq]at hR hf;simp only[go_sem,A1,Ay,q1,bne,qg,f1,f2,f3,gt_iff_lt,qG];refine Ad hf (by simp only[go_sem]) ?_;simp only[go_sem,A1,Ay];exact hk _ _ ⟨⟨rfl,rfl⟩,hR⟩
  .have f1:((1:Int)<(idx.length:Int))=True:=eq_true (by omega);rw[show A5=false from by rw[h5];exact decide_eq_false (by omega)]at hR;subst hR;simp only[go_sem,A1,Ay,qg,f1,gt_iff_lt];exact An rfl rfl
 clear hR;rintro e σ ⟨⟨rfl,rfl⟩,hR⟩;refine F0 (fun e σ=>e=[(1,.ptr 0 0 0),(4,.bool (Ei op))]/\σ=[.row [iV op,iV line,.str nm,.str arg,SL iz it (idx.map Xp.row),iV xo,iV xn,.str xm,SL xz xt (xl.map Xp.row),SL bz bt (body.map Sp.row),SL ez et (els.map Sp.row)] 104 0 0]) (fun k' hk=>?_) ?_
 .unfold Ei at hk;cases q1:(op==1);rotate_left
  .simp only[go_sem,q1];exact hk _ _ ⟨by rw[q1];rfl,rfl⟩
  cases q2:(op==2);rotate_left
  .simp only[go_sem,q1,q2];exact hk _ _ ⟨by rw[q1,q2];rfl,rfl⟩
  cases q3:(op==3);rotate_left
  .simp only[go_sem,q1,q2,q3];exact hk _ _ ⟨by rw[q1,q2,q3];rfl,rfl⟩
  cases q14:(op==14)
  .simp only[go_sem,q1,q2,q3,q14];exact hk _ _ ⟨by rw[q1,q2,q3,q14];rfl,rfl⟩
  .simp only[go_sem,q1,q2,q3,q14];exact hk _ _ ⟨by rw[q1,q2,q3,q14];rfl,rfl⟩
 rintro e σ ⟨rfl,rfl⟩;refine F0 (fun e σ=>(e=[(1,.ptr 0 0 0)]/\σ=[.row [iV op,iV line,.str nm,.str arg,SL iz it (idx.map Xp.row),iV xo,iV xn,.str xm,SL xz xt (xl.map Xp.row),SL bz bt (body.map Sp.row),SL ez et (els.map Sp.row)] 104 0 0])/\R=((A9&&(A10))&&(B1&&B2))) (fun k' hk=>?_) ?_
 .cases hn:Ei op
  .rw[hn,if_neg (by simp)]at h8;rw[<-h8]at qx;cases A8
   .subst hR;simp only[go_sem,A1,Ay];refine Ad qx (by simp only[go_sem]) ?_;simp only[go_sem,A1,Ay];exact An rfl rfl
   .simp only[go_sem,A1,Ay];refine Ad qx (by simp only[go_sem]) ?_;simp only[go_sem,A1,Ay];exact hk _ _ ⟨⟨rfl,rfl⟩,by rw[hR];rfl⟩
  .rw[hn,if_pos rfl]at h8;rw[<-h8]at he;cases A8
   .subst hR;simp only[go_sem,A1,Ay];refine Ad he (by simp only[go_sem]) ?_;simp only[go_sem,A1,Ay];exact An rfl rfl
   .simp only[go_sem,A1,Ay];refine Ad he (by simp only[go_sem]) ?_;simp only[go_sem,A1,Ay];exact hk _ _ ⟨⟨rfl,rfl⟩,by rw[hR];rfl⟩
 clear hR;rintro e σ ⟨⟨rfl,rfl⟩,hR⟩;refine F0 (fun e σ=>e=[(1,.ptr 0 0 0),(5,.bool (B4 op))]/\σ=[.row [iV op,iV line,.str nm,.str arg,SL iz it (idx.map Xp.row),iV xo,iV xn,.str xm,SL xz xt (xl.map Xp.row),SL bz bt (body.map Sp.row),SL ez et (els.map Sp.row)] 104 0 0]) (fun k' hk=>?_) ?_
 .unfold B4 at hk;by_cases g1:2<=op
  .have f1:((2:Int)<=op)=True:=eq_true g1;rw[decide_eq_true g1]at hk;by_cases g2:op<=8
   .have f2:(op<=8)=True:=eq_true g2;rw[decide_eq_true g2]at hk;simp only[go_sem,f1,f2,ge_iff_le];exact hk _ _ ⟨rfl,rfl⟩
   .have f2:(op<=8)=False:=eq_false g2;rw[decide_eq_false g2]at hk;simp only[go_sem,f1,f2,ge_iff_le];exact hk _ _ ⟨rfl,rfl⟩
  .have f1:((2:Int)<=op)=False:=eq_false g1;rw[decide_eq_false g1]at hk;simp only[go_sem,f1,ge_iff_le];exact hk _ _ ⟨rfl,rfl⟩
 rintro e σ ⟨rfl,rfl⟩;refine F0 (fun e σ=>(e=[(1,.ptr 0 0 0)]/\σ=[.row [iV op,iV line,.str nm,.str arg,SL iz it (idx.map Xp.row),iV xo,iV xn,.str xm,SL xz xt (xl.map Xp.row),SL bz bt (body.map Sp.row),SL ez et (els.map Sp.row)] 104 0 0])/\R=(B1&&B2)) (fun k' hk=>?_) ?_
 .have e1:((0:Int)<(body.length:Int))=(body.isEmpty=false):=by
   cases body with
   | nil=>simp
   | cons x r=>simp
  have e2:((0:Int)<(els.length:Int))=(els.isEmpty=false):=by
   cases els with
   | nil=>simp
   | cons x r=>simp
  rw[h9,jx]at hR
  cases hn:B4 op<;>cases hbe:body.isEmpty
  .rw[hn,hbe]at hR;subst hR;simp only[go_sem,A1,Ay,qu,e1,hbe,gt_iff_lt,decide_true];exact An rfl rfl
  all_goals
   rw[hn,hbe]at hR
   cases q2:(op==2)<;>cases hee:els.isEmpty
   .rw[q2,hee]at hR;subst hR;simp only[go_sem,A1,Ay,qu,qz,e1,e2,hbe,hee,q2,bne,gt_iff_lt,decide_true];exact An rfl rfl
   all_goals
    rw[q2,hee]at hR;simp only[go_sem,A1,Ay,qu,qz,e1,e2,hbe,hee,q2,bne,gt_iff_lt,decide_true];exact hk _ _ ⟨⟨rfl,rfl⟩,by rw[hR];rfl⟩
 clear hR;rintro e σ ⟨⟨rfl,rfl⟩,hR⟩;cases B1
 .subst hR;simp only[go_sem];refine Ad hb (by simp only[go_sem]) ?_;simp only[go_sem];exact An rfl rfl
 .cases B2
  .subst hR;simp only[go_sem];refine Ad hb (by simp only[go_sem]) ?_;simp only[go_sem];refine Ad hs (by simp only[go_sem]) ?_;simp only[go_sem];exact An rfl rfl
  .subst hR;simp only[go_sem];refine Ad hb (by simp only[go_sem]) ?_;simp only[go_sem];refine Ad hs (by simp only[go_sem]) ?_;simp only[go_sem];exact An rfl rfl
def Aha(z:Bool)(t:Nat)(l:List Sp)(hl:l.length<=1000000000)(ih:∀ y∈l,Fn TT PT 161 [.agg y.row] (.bool (N4 y))):Fn TT PT 131 [SL z t (l.map Sp.row)] (.bool (J8 l)):=by
 have qk:(l.map Sp.row).length=l.length:=Ap ..;rw[Aqg];obtain⟨R,hR⟩:∃ b,b=l.all N4:=⟨_,rfl⟩;rw[<-hR];refine Bo T131 rfl ?_;simp only[go_sem];refine Bn (α:=Nat) (fun i=>l.length - i) (fun i=>[(0,SL z t (l.map Sp.row)),(3,iV (i:Int))]) (fun _=>[]) (fun i=>i<=l.length/\l.all N4=(l.drop i).all N4) ?_ 0 ⟨Au _,rfl⟩;rintro i ⟨hi,qo⟩ jh;refine Bl Bby ?_;by_cases hc:i<l.length
 .have f1:((i:Int)<(l.length:Int))=True:=eq_true (by omega);have qZ:=A2 (show i<9223372036854775807 by omega);obtain⟨a,ha⟩:∃ a,l[i]?=some a:=⟨_,Bc hc⟩;have qM:=Gu a;have hf:=ih a (Ge ha);have qG:(l.map Sp.row)[i]?=some a.row:=by rw[Aj,ha,Gb]
  have qO:l.drop i=a::l.drop (i+1):=by rw[Fd hc,(Ak.1 ha).2]
  have qw:=Nf a;rw[qO,Aw]at qo;generalize a.row=ar at qG hf qM qw;have jH:ar.take 11=ar:=Kz (by omega);cases qq:N4 a
  .rw[qq]at hf qo;rw[qo]at hR;subst hR;simp only[go_sem,qk,f1,qG,qw,jH];refine Ad hf (by simp only[go_sem,qM]) ?_;simp only[go_sem];exact An rfl rfl
  .rw[qq]at hf qo;simp only[go_sem,qk,f1,qG,qw,jH];refine Ad hf (by simp only[go_sem,qM]) ?_;simp only[go_sem,qZ];exact As (jh (i+1) (by omega) ⟨hc,by simpa using qo⟩) rfl
 .have f1:((i:Int)<(l.length:Int))=False:=eq_false (by omega);rw[qo,Fo (by omega)]at hR;subst hR;simp only[go_sem,qk,f1];exact An rfl rfl
def Aji:∀ (N:Nat) (s:Sp),C7 s.row<=N->N<=1000000000->Fn TT PT 161 [.agg s.row] (.bool (N4 s))
 | 0,s,h,_=>by rw[Mu]at h;omega
 | N+1,s,h,hN=>by
  have h1:=Mu s;have h2:=K2 (f:=Xp.row) (fun x=>by rw[Gr];omega) s.idx;have h3:=K2 (f:=Sp.row) (fun x=>by rw[Mu];omega) s.body;have h4:=K2 (f:=Sp.row) (fun x=>by rw[Mu];omega) s.els;have h5:=K2 (f:=Xp.row) (fun x=>by rw[Gr];omega) s.ex.l;have h6:=Gr s.ex;refine A3t s (fun x hx=>Ady N x ?_ (by omega)) (Ady N s.ex (by omega) (by omega)) (by omega) (by omega) (by omega) (by omega) (Aha _ _ _ (by omega) fun y hy=>Aji N y ?_ (by omega)) (Aha _ _ _ (by omega) fun y hy=>Aji N y ?_ (by omega))
  .have:=I7 (f:=Xp.row) hx;omega
  .have:=I7 (f:=Sp.row) hy;omega
  .have:=I7 (f:=Sp.row) hy;omega
set_option maxHeartbeats 1000000 in
def Bcy(d:Dp):Fn TT PT 129 [.agg d.row] (.bool (Uy d)):=by
 obtain⟨kind,line,nm,size,init,on⟩:=d;obtain⟨R,hR⟩:∃ b,b=Uy ⟨kind,line,nm,size,init,on⟩:=⟨_,rfl⟩;rw[<-hR];unfold Uy at hR;simp only at hR;have qy:=Tg nm;have jo:=Tg on;refine Bo T129 rfl ?_;unfold Dp.row;simp only;obtain⟨A3,h3⟩:∃ b,b=Cc nm:=⟨_,rfl⟩;obtain⟨A6,h6⟩:∃ b,b=(if kind=5 then Cc on else on==[]):=⟨_,rfl⟩;obtain⟨A7,h7⟩:∃ b,b=(decide (-9223372036854775808<init)&&(init==0||(kind==1||kind==2))):=⟨_,rfl⟩;rw[<-h3,<-h6,<-h7]at hR;rw[<-h3]at qy;refine F0 (fun e σ=>e=[(1,.ptr 0 0 0)]/\σ=[.row [iV kind,iV line,.str nm,iV size,iV init,.str on] 86 0 0]) (fun k' hk=>?_) ?_
 .simp only[go_sem];exact hk _ _ ⟨rfl,rfl⟩
 rintro e σ ⟨rfl,rfl⟩;refine F0 (fun e σ=>(e=[(1,.ptr 0 0 0)]/\σ=[.row [iV kind,iV line,.str nm,iV size,iV init,.str on] 86 0 0])/\R=(A6&&A7)) (fun k' hk=>?_) ?_
 .by_cases g1:kind<1
  .rw[decide_eq_false (show ¬ 1<=kind by omega)]at hR;subst hR;have f1:(kind<1)=True:=eq_true g1;simp only[go_sem,f1];exact An rfl rfl
  have f1:(kind<1)=False:=eq_false g1;rw[decide_eq_true (show 1<=kind by omega)]at hR;by_cases g2:6<kind
  .rw[decide_eq_false (show ¬ kind<=6 by omega)]at hR;subst hR;have f2:((6:Int)<kind)=True:=eq_true g2;simp only[go_sem,f1,f2,gt_iff_lt];exact An rfl rfl
  have f2:((6:Int)<kind)=False:=eq_false g2;rw[decide_eq_true (show kind<=6 by omega)]at hR;cases A3
  .subst hR;simp only[go_sem,f1,f2,gt_iff_lt];refine Ad qy rfl ?_;simp only[go_sem,A1];exact An rfl rfl
  by_cases g4:size<0
  .rw[decide_eq_false (show ¬ 0<=size by omega)]at hR;subst hR;have f4:(size<0)=True:=eq_true g4;simp only[go_sem,f1,f2,gt_iff_lt];refine Ad qy rfl ?_;simp only[go_sem,f4,Ay];exact An rfl rfl
  have f4:(size<0)=False:=eq_false g4;rw[decide_eq_true (show 0<=size by omega)]at hR
  cases q1:(kind==1)<;>cases q5:(size==0)
  .rw[q1,q5]at hR;subst hR;simp only[go_sem,f1,f2,gt_iff_lt];refine Ad qy rfl ?_;simp only[go_sem,f4,Ay,A1,bne,q1,q5];exact An rfl rfl
  all_goals
   rw[q1,q5]at hR;simp only[go_sem,f1,f2,gt_iff_lt];refine Ad qy rfl ?_;simp only[go_sem,f4,Ay,A1,bne,q1,q5];exact hk _ _ ⟨⟨rfl,rfl⟩,by rw[hR];rfl⟩
 clear hR;rintro e σ ⟨⟨rfl,rfl⟩,hR⟩;refine F0 (fun e σ=>(e=[(1,.ptr 0 0 0)]/\σ=[.row [iV kind,iV line,.str nm,iV size,iV init,.str on] 86 0 0])/\R=A7) (fun k' hk=>?_) ?_
 .by_cases h5:kind=5
  .rw[if_pos h5]at h6;have q5:(kind==5)=true:=by simp[h5]
   rw[<-h6]at jo;cases A6
   .subst hR;simp only[go_sem,q5,bne,Ay,A1];refine Ad jo rfl ?_;simp only[go_sem,A1];exact An rfl rfl
   .simp only[go_sem,q5,bne,Ay,A1];refine Ad jo rfl ?_;simp only[go_sem,q5,bne,Ay,A1];exact hk _ _ ⟨⟨rfl,rfl⟩,by rw[hR];rfl⟩
  .rw[if_neg h5]at h6;have h6:=h6.symm;have q5:(kind==5)=false:=by simp[h5]
   cases A6
   .subst hR;simp only[go_sem,q5,h6,bne,Ay,A1];exact An rfl rfl
   .simp only[go_sem,q5,h6,bne,Ay,A1];exact hk _ _ ⟨⟨rfl,rfl⟩,by rw[hR];rfl⟩
 clear hR;rintro e σ ⟨⟨rfl,rfl⟩,hR⟩;rw[h7]at hR;by_cases g7 : -9223372036854775808<init
 .have f7:((-9223372036854775808:Int)<init)=True:=eq_true g7;rw[decide_eq_true g7]at hR
  cases q0:(init==0)<;>cases q1:(kind==1)<;>cases q2:(kind==2)
  all_goals
   rw[q0,q1,q2]at hR;subst hR;simp only[go_sem,f7,q0,q1,q2,gt_iff_lt];exact An rfl rfl
 .have f7:((-9223372036854775808:Int)<init)=False:=eq_false g7;rw[decide_eq_false g7]at hR;subst hR;simp only[go_sem,f7,gt_iff_lt];exact An rfl rfl
set_option maxHeartbeats 1000000 in
def Bcz(p:Gp)(hb:C7 p.row<=1000000000):Fn TT PT 76 [.agg p.row] (.bool (shG p)):=by
 obtain⟨dz,dt,decls,tz,tt,thrs⟩:=p;rw[Aki]at hb;simp only at hb;have b1:=K2 (f:=Dp.row) (fun x=>by rw[Bii];omega) decls;have b2:=K2 (f:=Tp.row) (fun x=>by rw[Z4];omega) thrs;have n1:(decls.map Dp.row).length=decls.length:=Ap ..;have n2:(thrs.map Tp.row).length=thrs.length:=Ap ..;obtain⟨R,hR⟩:∃ b,b=shG ⟨dz,dt,decls,tz,tt,thrs⟩:=⟨_,rfl⟩;rw[<-hR];unfold shG at hR;simp only at hR;unfold Gp.row;simp only;refine Bo T76 rfl ?_;simp only[go_sem];refine Bn (α:=Nat) (fun i=>decls.length - i) (fun i=>[(1,.ptr 0 0 0),(3,iV (i:Int))]) (fun _=>[.row [SL dz dt (decls.map Dp.row),SL tz tt (thrs.map Tp.row)] 29 0 0]) (fun i=>i<=decls.length/\decls.all Uy=(decls.drop i).all Uy) ?_ 0 ⟨Au _,rfl⟩;rintro i ⟨hi,hc⟩ ih;refine Bl Bhi ?_;rcases Be i decls.length with h' | h'
 .obtain⟨x,hx,hd,hm⟩:=By h';rw[hd,Aw]at hc;have hf:=Bcy x;have qc:x.row=[iV x.kind,iV x.line,.str x.nm,iV x.size,iV x.init,.str x.on]:=rfl;rw[qc]at hf;cases hx1:Uy x
  .rw[hx1]at hf hc;obtain rfl:R=false:=by rw[hR,hc];rfl
   simp only[go_sem,n1,A0 h',Aj,hx,qc];refine Ad hf (by simp only[go_sem]) ?_;simp only[go_sem,A1];exact An rfl rfl
  .rw[hx1]at hf hc;simp only[go_sem,n1,A0 h',Aj,hx,qc];refine Ad hf (by simp only[go_sem]) ?_;simp only[go_sem,Ay,A2 (show i<9223372036854775807 by omega)];exact As (ih (i+1) (by omega) ⟨h',by simpa using hc⟩) rfl
 .rw[Fo h']at hc;rw[hc]at hR;clear ih hc hi;simp only[go_sem,n1,Bq h'];refine Bn (α:=Nat × St) (fun a=>thrs.length - a.1) (fun a=>[(1,.ptr 0 0 0),(4,iV (a.1:Int))]) (fun a=>a.2) (fun a=>a.1<=thrs.length/\a.2[0]?=some (.row [SL dz dt (decls.map Dp.row),SL tz tt (thrs.map Tp.row)] 29 0 0)/\thrs.all shT=(thrs.drop a.1).all shT) ?_ (0,_) ⟨Au _,rfl,rfl⟩;rintro⟨i,s⟩ ⟨hi,hs,hc⟩ ih;simp only at hi hc hs ih;refine Bl Bhk ?_;rcases Be i thrs.length with h' | h'
  .obtain⟨x,hx,hd,hm⟩:=By h';rw[hd,Aw]at hc;have jy:=I7 (f:=Tp.row) hm;obtain⟨nm,line,lz,lt,locals,bz,bt,body⟩:=x;rw[Z4]at jy;simp only at jy;have b3:=K2 (f:=fun s=>[V.str s]) (fun x=>by simp only[C7,V.bulk];omega) locals;have b4:=K2 (f:=Sp.row) (fun x=>by rw[Mu];omega) body;have n3:(locals.map fun s=>[V.str s]).length=locals.length:=Ap ..;have jd:shT ⟨nm,line,lz,lt,locals,bz,bt,body⟩=false->R=false:=fun h=>by rw[hR,hc,h];rfl
   have jb:shT ⟨nm,line,lz,lt,locals,bz,bt,body⟩=(locals.all Cc&&(Cc nm&&J8 body)):=rfl;have qc:Tp.row ⟨nm,line,lz,lt,locals,bz,bt,body⟩=[.str nm,iV line,SL lz lt (locals.map fun x=>[V.str x]),SL bz bt (body.map Sp.row)]:=rfl;obtain⟨s',jq⟩:∃ s',s'=s++[Ob.row [.str nm,iV line,SL lz lt (locals.map fun x=>[V.str x]),SL bz bt (body.map Sp.row)] 90 0 0]:=⟨_,rfl⟩;have k1:s'[s.length]?=some (.row [.str nm,iV line,SL lz lt (locals.map fun x=>[V.str x]),SL bz bt (body.map Sp.row)] 90 0 0):=by rw[jq,Co (Ai _),Gf];rfl
   have k0:s'[0]?=some (.row [SL dz dt (decls.map Dp.row),SL tz tt (thrs.map Tp.row)] 29 0 0):=by rw[jq];exact Bx hs
   simp only[go_sem,hs,n2,A0 h',Aj,hx,qc];rw[<-jq];refine Bn (α:=Nat) (fun k=>locals.length - k) (fun k=>[(1,.ptr 0 0 0),(4,iV (i:Int)),(5,.ptr s.length 0 0),(6,iV (k:Int))]) (fun _=>s') (fun k=>k<=locals.length/\locals.all Cc=(locals.drop k).all Cc) ?_ 0 ⟨Au _,rfl⟩;rintro k ⟨hk,hl⟩ jh;refine Bl Bhj ?_;rcases Be k locals.length with g' | g'
   .obtain⟨y,hy,qJ,kf⟩:=By g';rw[qJ,Aw]at hl;have hf:=Tg y;cases hy1:Cc y
    .rw[hy1]at hf hl;obtain rfl:=jd (by rw[jb,hl];rfl);simp only[go_sem,k1,n3,A0 g',Aj,hy];refine Ad hf (by simp only[go_sem]) ?_;simp only[go_sem,A1];exact An rfl rfl
    .rw[hy1]at hf hl;simp only[go_sem,k1,n3,A0 g',Aj,hy];refine Ad hf (by simp only[go_sem]) ?_;simp only[go_sem,Ay,A2 (show k<9223372036854775807 by omega)];exact As (jh (k+1) (by omega) ⟨g',by simpa using hl⟩) rfl
   .rw[Fo g']at hl;clear jh;have qQ:=Tg nm;have qX:=Aha bz bt body (by omega) fun y hy=>Aji 1000000000 y (by have:=I7 (f:=Sp.row) hy;omega) (Ai _)
    cases hn1:Cc nm
    .rw[hn1]at qQ;obtain rfl:=jd (by rw[jb,hn1];simp);simp only[go_sem,k1,n3,Bq g'];refine Ad qQ (by simp only[go_sem]) ?_;simp only[go_sem,A1];exact An rfl rfl
    .rw[hn1]at qQ;cases hb1:J8 body
     .rw[hb1]at qX;obtain rfl:=jd (by rw[jb,hb1];simp);simp only[go_sem,k1,n3,Bq g'];refine Ad qQ (by simp only[go_sem]) ?_;simp only[go_sem,Ay,k1];refine Ad qX (by simp only[go_sem]) ?_;simp only[go_sem,A1];exact An rfl rfl
     .rw[hb1]at qX;simp only[go_sem,k1,n3,Bq g'];refine Ad qQ (by simp only[go_sem]) ?_;simp only[go_sem,Ay,k1];refine Ad qX (by simp only[go_sem]) ?_;simp only[go_sem,Ay,A2 (show i<9223372036854775807 by omega)];refine As (ih (i+1,s') (by simp;omega) ⟨by simp;omega,k0,?_⟩) rfl;simp only;rw[hc,jb,hl,hn1,hb1];simp
  .rw[Fo h']at hc;rw[hc]at hR;by_cases hn:thrs.length=0
   .obtain rfl:R=false:=by
     rw[hR,Qp.1 hn];rfl
    have f1:((0:Int)<(thrs.length:Int))=False:=eq_false (by omega);simp only[go_sem,hs,n2,Bq h',gt_iff_lt,f1];exact An rfl rfl
   .obtain rfl:R=true:=by
     rw[hR]
     cases thrs with
     | nil=>exact absurd rfl hn
     | cons a l=>rfl
    have f1:((0:Int)<(thrs.length:Int))=True:=eq_true (by omega);simp only[go_sem,hs,n2,Bq h',gt_iff_lt,f1];exact An rfl rfl
variable {T:Nat->Option AF} {pr:Nat->Option (List V->Option V)}
inductive LXt (qa:List (List Nat)) (n:Nat):List Nat->List Nat->Prop
 | nil {qb:List Nat}:qb.length=n->LXt qa n qb []
 | cons {qb:List Nat} {i:Nat} {L:List Nat}:i<n->i ∉ qb->(∀ d∈qa.getD i [],d∈qb)->LXt qa n (i::qb) L->LXt qa n qb (i::L)
def Aua{qa:List (List Nat)}{n:Nat}(hn:qa.length=n)(qB:∀ j,j<n->∀ d∈qa.getD j [],d<j):∀ (fuel t:Nat) (qb:List Nat),qb.length+fuel=n->qb.Nodup->(∀ i∈qb,i<n)->LXt qa n qb (Nl qa fuel t qb)
 | 0,t,qb,hl,_,_=>.nil (by omega)
 | fuel+1,t,qb,hl,hnd,qr=>by
  have qT:∃ j,j<n/\j ∉ qb/\∀ d∈qa.getD j [],d∈qb:=by
   have jS:∃ j,j<n/\j ∉ qb:=by
    rcases Classical.em (∃ j,j<n/\j ∉ qb) with h | h
    .exact h
    .exfalso;have qF:∀ j,j<n->j∈qb:=fun j hj=>Classical.byContradiction fun hc=>h ⟨j,hj,hc⟩
     have h1:=Abn n qb qF;omega
   have:∀ k,∀ j,j<=k->j<n->j ∉ qb->∃ j,j<n/\j ∉ qb/\∀ d∈qa.getD j [],d∈qb:=by
    intro k
    induction k with
    | zero=>
     intro j hj h1 h2;obtain rfl:j=0:=by omega
     exact⟨0,h1,h2,fun d hd=>absurd (qB 0 h1 d hd) (by omega)⟩
    | succ k ih=>
     intro j hj h1 h2;by_cases ql:∀ d∈qa.getD j [],d∈qb
     .exact⟨j,h1,h2,ql⟩
     .obtain⟨d,hd,qO⟩:∃ d,d∈qa.getD j []/\d ∉ qb:=Classical.byContradiction fun hc=>ql fun d hd=>Classical.byContradiction fun qO=>hc ⟨d,hd,qO⟩
      have:=qB j h1 d hd;exact ih d (by omega) (by omega) qO
   obtain⟨j,h1,h2⟩:=jS;exact this j j (Ai _) h1 h2
  unfold Nl;generalize jG:(List.range qa.length).filter (Lt qa qb)=rs
  have qS:0<rs.length:=by
   obtain⟨j,h1,h2,h3⟩:=qT
   have:j∈rs:=by
    rw[<-jG,Pc];refine⟨by rw[E1,hn];exact h1,?_⟩;simp only[Lt,Af,K0,Bp];refine⟨?_,fun d hd=>H1.2 (h3 d hd)⟩
    cases qP:qb.elem j with
    | false=>rfl
    | true=>exact absurd (H1.1 qP) h2
   exact Afq this
  have qC:rs[t % rs.length]?=some (rs[t % rs.length]'(Pg _ qS)):=Bc _;generalize rs[t % rs.length]'(Pg _ qS)=i at qC;rw[qC];have qZ:i∈rs:=Ge qC;rw[<-jG,Pc]at qZ;obtain⟨jA,qh⟩:=qZ;have hi:i<n:=by rw[E1,hn]at jA;exact jA
  simp only[Lt,Af,K0,Bp]at qh;have qn:i ∉ qb:=fun h=>by rw[H1.2 h]at qh;cases qh.1
  have qf:∀ d∈qa.getD i [],d∈qb:=fun d hd=>H1.1 (qh.2 d hd)
  exact .cons hi qn qf (Aua hn qB fuel _ (i::qb) (by simp;omega) (Af4.2 ⟨qn,hnd⟩) (fun j hj=>by
   rcases Bj.1 hj with rfl | hj
   .exact hi
   .exact qr j hj))
section
variable {qa:List (List Nat)} {ops:List AI} {e e1:Env} {σ σ1:St} {qL:Nat->Env} {st:Nat->St} {val:Nat->V} {ro:Nat->Option (St->Prop)}
def Aqh(qp:StaP qa ops)(q:Sr T pr qa ops.length 0 ops e σ [] [] e1 σ1 qL st val ro):∀ (L qb:List Nat) (E:Env) (S':St),LXt qa ops.length qb L->qb.Nodup->(∀ i∈qb,i<ops.length)->DC qa qb ->
  EnvOK ops val e (·∈qb) E->W9 ops ro st qb S'->∃ E',Ev T pr (.ops (Dt ops L) E S' E' σ1)/\∀ m,E'.get m=e1.get m
 | [],qb,E,S',.nil hl,hn,qr,hdc,hE,⟨m,hm,hS,heff⟩=>by
  have ql:∀ j,j<ops.length->j∈qb:=fun j hj=>Atd hn qr (by omega) hj
  refine⟨E,?_,fun k=>?_⟩
  .have jt:S'=σ1:=by
    rw[hS,<-q.s1,E3];obtain⟨d,hd⟩:∃ d,m+d=ops.length:=⟨ops.length - m,by omega⟩;rw[<-hd];refine(Nd q id d m (by omega) (fun k h1 h2 he=>?_)).symm;have:=(heff k he).2 (ql k (by omega));omega
   rw[jt];exact .opsNil
  .have ht:=X4 q ops.length (Ai _);have jz:=q.e1;rw[E3]at jz;rw[<-jz];exact hE.same ht (fun j hj=>⟨fun h=>qr j h,fun h=>ql j h⟩)
 | i::L,qb,E,S',.cons hi qn qf hL,hn,qr,hdc,hE,⟨m,hm,hS,heff⟩=>by
  obtain⟨x,hx⟩:∃ x,ops[i]?=some x:=⟨ops[i],Bc hi⟩
  have jI:∀ j y,i<j->ops[j]?=some y->j∈qb->Mo x y=true:=fun j y jk hy hj=>by
   rcases qp.pair i j x y jk hx hy with h | h
   .exact absurd (Q9 hdc _ j i h hj) qn
   .exact h
  have jR:∀ j y,j<i->ops[j]?=some y->j ∉ qb->Mo y x=true:=fun j y jk hy hj=>by
   rcases qp.pair j i y x jk hy hx with h | h
   .exact absurd (Vf hdc qf h) hj
   .exact h
  have qj:∀ {j t:Nat},Nq ops j=some t->∃ y,ops[j]?=some y/\y.dst=some t:=fun {j t} h=>by
   unfold Nq at h
   cases hy:ops[j]? with
   | none=>rw[hy]at h;simp at h
   | some y=>rw[hy]at h;exact⟨y,rfl,by simpa using h⟩
  have qs:Agree (qL i) E x.rd:=fun t ht=>by
   refine(X4 q i (by omega)).same hE (fun j hj=>?_);obtain⟨y,hy,qJ⟩:=qj hj;constructor
   .intro qv;rcases Classical.em (j∈qb) with h | h
    .exact h
    .have:=jR j y qv hy h;simp only[Mo,qJ,Af,K0]at this;have h1:=this.1.1;rw[H1.2 ht]at h1;cases h1
   .intro jB;rcases Sn j i with h | h | h
    .exact h
    .subst h;exact absurd jB qn
    .have:=jI j y h hy jB;simp only[Mo,qJ,Af,K0]at this;have h1:=this.2;rw[H1.2 ht]at h1;cases h1
  obtain⟨jj,qd⟩:=q.stp i x hx;simp only[E3]at jj qd
  have jL:EnvOK ops val e (·∈i::qb) (E.putO x.dst (val i)):=(hE.put hx (fun j t hj jZ jT=>by
   obtain⟨y,hy,qJ⟩:=qj jT;rcases Sn j i with h | h | h
   .exact h
   .subst h;exact absurd hj qn
   .have:=jI j y h hy hj;simp only[Mo,jZ,qJ,Af,K0]at this;have h1:=this.1.2
    simp at h1)).iff (fun j=>by simp[Bj])
  have ji:DC qa (i::qb):=fun j hj d hd=>by
   rcases Bj.1 hj with rfl | hj
   .exact C4 _ (qf d hd)
   .exact C4 _ (hdc j hj d hd)
  have next:∀ S2,W9 ops ro st (i::qb) S2->Sg T pr x E S' (val i) S2->∃ E',Ev T pr (.ops (Dt ops (i::L)) E S' E' σ1)/\∀ m,E'.get m=e1.get m:=fun S2 je ju=>by
   obtain⟨E',h1,h2⟩:=Aqh qp q L (i::qb) _ S2 hL (Af4.2 ⟨qn,hn⟩) (fun j hj=>by
    rcases Bj.1 hj with rfl | hj
    .exact hi
    .exact qr j hj) ji jL je
   refine⟨E',?_,h2⟩
   have:Dt ops (i::L)=x::Dt ops L:=by
    unfold Dt;rw[Jm,hx]
   rw[this];exact ju.ev h1
  have hb:=Atf qp.dep
  cases hro:ro i with
  | none=>
   rw[hro]at qd;have qd:Sg T pr x (qL i) (st i) (val i) (st (i+1)):=qd
   have qt:∀ k,W6 ops ro k->(k∈qb↔k<i):=fun k ⟨jm,ja⟩=>by
    constructor
    .intro hk;rcases Sn k i with h | h | h
     .exact h
     .subst h;exact absurd hk qn
     .have:=q.d0 i k h jm (by simpa using hro) (by simpa using ja);simp only[E3]at this;exact absurd (Q9 hdc _ k i this hk) qn
    .intro hk;have:=q.d0 k i hk hi (by simpa using ja) (by simpa using hro);simp only[E3]at this;exact Vf hdc qf this
   have jM:S'=st i:=by
    rw[hS];rcases Age m i with qD | qD
    .obtain⟨d,rfl⟩:=Sc qD
     exact(Nd q id d m (by omega) (fun k a1 a2 he=>by
      have:=(heff k he).2 ((qt k he).2 a2)
      omega)).symm
    .obtain⟨d,rfl⟩:=Sc qD
     exact Nd q id d i (by omega) (fun k a1 a2 he=>by
      have:=(qt k he).1 ((heff k he).1 a2)
      omega)
   rw[jM]at next ⊢
   refine next (st (i+1)) ⟨i+1,by omega,rfl,fun k he=>?_⟩ (qd.move qs)
   rw[Bj,qt k he];omega
  | some R=>
   rw[hro]at qd;obtain⟨ka,jC,jV⟩:st (i+1)=st i/\R (st i)/\∀ s',R s'->Sg T pr x (qL i) s' (val i) s':=qd
   have je:W9 ops ro st (i::qb) S':=⟨m,hm,hS,fun k he=>by
    rw[heff k he,Bj];constructor
    .exact .inr
    .rintro(rfl | h)
     .rw[he.2]at hro;cases hro
     .exact h⟩
   refine next S' je ((jV S' ?_).move qs)
   have qR:∀ k,W6 ops ro k->(k∈qb/\i<k\/k ∉ qb/\k<i)->R (st (k+1))=R (st k):=fun k ⟨jm,ja⟩ hk=>by
    have hd:=q.d1 i k R hi jm (by simpa using hro) (by simpa using ja);simp only[E3]at hd;rcases hd with h | h | h
    .have qH:=Vf hdc qf h;rcases hk with⟨_,qv⟩ | ⟨hk,_⟩
     .have:=hb _ i k hi h;omega
     .exact absurd qH hk
    .rcases hk with⟨hk,_⟩ | ⟨hk,qv⟩
     .exact absurd (Q9 hdc _ k i h hk) qn
     .have:=hb _ k i (by omega) h;omega
    .exact propext h
   rw[hS];rcases Age m i with qD | qD
   .obtain⟨d,rfl⟩:=Sc qD
    have:=Nd q R d m (by omega) (fun k a1 a2 he=>qR k he (.inr ⟨fun qH=>by
     have:=(heff k he).2 qH
     omega,a2⟩))
    rw[<-this];exact jC
   .obtain⟨d,rfl⟩:=Sc qD
    have:=Nd q R d i (by omega) (fun k a1 a2 he=>by
     have qH:=(heff k he).1 a2;rcases Nat.eq_or_lt_of_le a1 with rfl | h
     .exact absurd qH qn
     .exact qR k he (.inl ⟨qH,h⟩))
    rw[this];exact jC
def A3u(qp:Ns qa ops=true)(h:TG T pr qa ops.length 0 ops e σ [] [] e1 σ1){L:List Nat}(hL:LXt qa ops.length [] L):∃ E',Ev T pr (.ops (Dt ops L) e σ E' σ1)/\∀ m,E'.get m=e1.get m:=by
 obtain⟨qL,st,val,ro,q⟩:=h.sr;exact Aqh (Arq qp) q L [] e σ hL U3 (fun i hi=>by cases hi) (fun j hj=>by cases hj) (fun t=>.inr ⟨(fun j hj=>by cases hj),rfl⟩) ⟨0,Au _,q.s0.symm,fun j _=>by simp⟩
end
def Xg(L:List Nat)(a b:Nat):Prop:=∀ L1 L2,L=L1++b::L2->a∈L1
def Bc0{L:List Nat}{a b:Nat}(qq:a≠b):Xg L a b\/Xg L b a:=by
 rcases Classical.em (Xg L a b) with h | h
 .exact .inl h
 .refine .inr ?_;unfold Xg at h;obtain⟨L1,h⟩:=Classical.not_forall.1 h;obtain⟨L2,h⟩:=Classical.not_forall.1 h;obtain⟨h1,h2⟩:=Classical.not_imp.1 h;intro M1 M2 h3;rw[h1]at h3;rcases List.append_eq_append_iff.1 h3 with⟨c,rfl,h4⟩ | ⟨c,rfl,h4⟩
  .cases c with
   | nil=>simp at h4;exact absurd h4.1.symm qq
   | cons x c=>simp at h4;simp[h4.1]
  .cases c with
   | nil=>simp at h4;exact absurd h4.1 qq
   | cons x c=>simp at h4;exact absurd (by simp[h4.1]) h2
def DR(T:Nat->Option AF)(pr:Nat->Option (List V->Option V))(qa:List (List Nat))(X:List (Nat × Nat))(ops:List AI)(e:Env)(σ:St)(e1:Env)(σ1:St):Prop:=
 ∀ L,LXt qa ops.length [] L->(∀ p∈X,Xg L p.1 p.2)->∃ E',Ev T pr (.ops (Dt ops L) e σ E' σ1)/\∀ m,E'.get m=e1.get m
section
variable {qa:List (List Nat)} {ops:List AI} {e e1:Env} {σ σ1:St} {X:List (Nat × Nat)}
def A3v(a b:Nat)(qq:a≠b)(h1:DR T pr qa ((a,b)::X) ops e σ e1 σ1)(h2:DR T pr qa ((b,a)::X) ops e σ e1 σ1):DR T pr qa X ops e σ e1 σ1:=fun L hL hX=>by
 rcases Bc0 (L:=L) qq with h | h
 .exact h1 L hL fun p hp=>by
   rcases Bj.1 hp with rfl | hp
   .exact h
   .exact hX p hp
 .exact h2 L hL fun p hp=>by
   rcases Bj.1 hp with rfl | hp
   .exact h
   .exact hX p hp
def M4(P:List Nat)(i:Nat):Nat:=P.idxOf i
def Ael(qa qe:List (List Nat))(X:List (Nat × Nat))(n:Nat)(P:List Nat):Bool:=
 P.length==n&&((List.range n).all fun i=>P[M4 P i]?==some i&&decide (M4 P i<n)&&((qe.getD (M4 P i) []).all fun d'=>((qa.getD i []).any fun d=>M4 P d==d')||X.any fun p=>p.2==i&&M4 P p.1==d'))
def Aqi{P:List Nat}{ops qi:List AI}(ho:Dt ops P=qi)(qk:qi.length=P.length)(hP:∀ i∈P,i<ops.length):∀ L:List Nat,(∀ i∈L,P[M4 P i]?=some i)->Dt qi (L.map (M4 P))=Dt ops L
 | [],_=>rfl
 | i::L,h=>by
  have ih:=Aqi ho qk hP L fun j hj=>h j (C4 _ hj)
  have hi:=h i C5
  have qV:∀ (P:List Nat) (k:Nat) (i:Nat),(∀ i∈P,i<ops.length)->P[k]?=some i->(Dt ops P)[k]?=ops[i]?:=by
   intro P
   induction P with
   | nil=>intro k i _ h;simp at h
   | cons p P ihP=>
    intro k i qr h;have hp:=qr p C5
    have:Dt ops (p::P)=ops[p]::Dt ops P:=by
     unfold Dt;rw[Jm,Bc hp]
    rw[this]
    cases k with
    | zero=>simp at h;subst h;simp
    | succ k=>simp at h ⊢;exact ihP k i (fun j hj=>qr j (C4 _ hj)) h
  have hk:=qV P (M4 P i) i hP hi;rw[ho]at hk;unfold Dt at ih ⊢;rw[Bb,Jm,Jm,hk,ih]
def Ask(P:List Nat)(qe:List (List Nat))(qi:List AI)(ho:Dt ops P=qi)(qk:qi.length=ops.length)(hp:Ael qa qe X ops.length P=true)(qp:Ns qe qi=true){e2:Env}(h:TG T pr qe qi.length 0 qi e σ [] [] e2 σ1)(he:∀ m,e2.get m=e1.get m):DR T pr qa X ops e σ e1 σ1:=by
 intro L hL hX;unfold Ael at hp;simp only[Af,beq_iff_eq,Bp,E1,decide_eq_true_eq,Il,N5]at hp;obtain⟨jD,qI⟩:=hp
 have jl:∀ i j,i<ops.length->j<ops.length->M4 P i=M4 P j->i=j:=fun i j hi hj h=>by
  have a:=(qI i hi).1.1;have b:=(qI j hj).1.1;rw[h,b]at a;exact(Jo a).symm
 have jv:∀ L qb,LXt qa ops.length qb L->(∀ i∈qb,i<ops.length)->(∀ p∈X,Xg (qb.reverse++L) p.1 p.2)->LXt qe ops.length (qb.map (M4 P)) (L.map (M4 P))/\∀ i∈L,i<ops.length:=by
  intro L
  induction L with
  | nil=>
   intro qb hl _ _
   cases hl with
   | nil hl=>exact⟨.nil (by simpa using hl),by simp⟩
  | cons i L ih=>
   intro qb hl qr hB
   cases hl with
   | cons hi qn hd hl=>
    have qv:∀ j∈i::qb,j<ops.length:=fun j hj=>by
     rcases Bj.1 hj with rfl | hj
     .exact hi
     .exact qr j hj
    obtain⟨g1,g2⟩:=ih (i::qb) hl qv (by simpa using hB)
    refine⟨.cons (qI i hi).1.2 (fun hm=>?_) (fun d' jQ=>?_) (by simpa using g1),fun j hj=>by
     rcases Bj.1 hj with rfl | hj
     .exact hi
     .exact g2 j hj⟩
    .obtain⟨j,hj,jU⟩:=Ct.1 hm;have:=jl j i (qr j hj) hi jU;subst this;exact qn hj
    .rcases(qI i hi).2 d' jQ with⟨d,h1,h2⟩ | ⟨p,h1,h2,h3⟩
     .exact Ct.2 ⟨d,hd d h1,h2⟩
     .have:=hB p h1 qb.reverse L (by rw[h2]);exact Ct.2 ⟨p.1,by simpa using this,h3⟩
 obtain⟨g1,g2⟩:=jv L [] hL (fun i hi=>by cases hi) (by simpa using hX);rw[<-qk]at g1;obtain⟨E',h1,h2⟩:=A3u qp h g1;refine⟨E',?_,fun m=>(h2 m).trans (he m)⟩
 have jc:∀ i∈P,i<ops.length:=by
  have qF:∀ i,i<ops.length->i∈P:=fun i hi=>Ge (qI i hi).1.1
  intro i hi;rcases Be i ops.length with h | h
  .exact h
  .exfalso;have h1:=Abn ops.length (P.erase i) (fun j hj=>(List.mem_erase_of_ne (by omega)).2 (qF j hj));rw[List.length_erase,if_pos hi,jD]at h1;have:=Afq hi;omega
 rw[Aqi ho (by rw[qk,jD]) jc L (fun i hi=>(qI i (g2 i hi)).1.1)]at h1;exact h1
def Bc1{kill:List Nat}{k:List It}{Q:Env->St->Prop}(qp:((qa.length==ops.length)&&(List.range ops.length).all fun j=>(qa.getD j []).all fun d=>decide (d<j))=true)(h:∃ e1 σ1,DR T pr qa [] ops e σ e1 σ1/\W T pr k (e1.del kill) σ1 Q):W T pr (.c (.drw kill qa ops)::k) e σ Q:=by
 obtain⟨e1,σ1,hd,e',σ',h2,q⟩:=h;simp only[Af,beq_iff_eq,Bp,E1,decide_eq_true_eq]at qp
 have qV:∀ t,∃ E',Ev T pr (.ops (Dt ops (O2 qa t)) e σ E' σ1)/\∀ m,E'.get m=e1.get m:=fun t=>by
  refine hd _ ?_ (fun p hp=>by cases hp);unfold O2;rw[Ahm];exact Aua qp.1 (fun j hj d hd=>qp.2 j hj d hd) qa.length t [] (by simp[qp.1]) U3 (fun i hi=>by cases hi)
 exact⟨e',σ',.cDrw (fun t=>(qV t).choose) (fun t=>(qV t).choose_spec.1) (fun t=>(qV t).choose_spec.2) h2,q⟩
end
/-! environments by their slots -/
def Z5(k:Nat)(v:V):Env->Env
 | []=>[(k,v)]
 | (m,u)::r=>if k<m then(k,v)::(m,u)::r else if k=m then(k,v)::r else(m,u)::Z5 k v r
def P4:Env->Env
 | []=>[]
 | (k,v)::r=>Z5 k v (P4 r)
def Aqj(k:Nat)(v:V)(n:Nat):∀ l:Env,(Z5 k v l).get n=if k=n then v else l.get n
 | []=>by simp[Z5,Env.get]
 | (m,u)::r=>by
  have ih:=Aqj k v n r;unfold Z5
  split
  .simp[Env.get]
  .split
   .rename_i h;subst h;simp only[Env.get]
    split<;>rfl
   .simp only[Env.get,ih]
    split
    .rename_i h1 h2 h3;subst h3;rw[if_neg h2]
    .rfl
def Ahb(n:Nat):∀ e:Env,(P4 e).get n=e.get n
 | []=>rfl
 | (k,v)::r=>by
  rw[P4,Aqj,Ahb n r];rfl
def A3w{e e':Env}(h:P4 e=P4 e')(n:Nat):e.get n=e'.get n:=by rw[<-Ahb n e,h,Ahb]
def DE(E:Env)(S:St)(e:Env)(σ:St):Prop:=e=E/\σ=S
def DS(E:Env)(S:St)(e:Env)(σ:St):Prop:=P4 e=P4 E/\σ=S
def Bij{E:Env}{S:St}:DE E S E S:=⟨rfl,rfl⟩
def Bik{E e:Env}{S σ:St}(h:P4 e=P4 E)(h':σ=S):DS E S e σ:=⟨h,h'⟩
def Bc2{qa:List (List Nat)}{ops:List AI}{kill:List Nat}{k:List It}{e:Env}{σ:St}{Q:Env->St->Prop}(a b:Nat)(P1 P2:List Nat)(d1 d2:List (List Nat)){E:Env}{S:St}
  (hp:((qa.length==ops.length)&&((List.range ops.length).all fun j=>(qa.getD j []).all fun d=>decide (d<j))&&(a==b)==false&&Ael qa d1 [(a,b)] ops.length P1&&Ael qa d2 [(b,a)] ops.length P2&&Ns d1 (Dt ops P1)&&Ns d2 (Dt ops P2)&&(Dt ops P1).length==ops.length&&(Dt ops P2).length==ops.length)=true)
  (h1:wg T pr d1 (Dt ops P1).length [] [] (DE E S) 0 (Dt ops P1) e σ [] [])
  (h2:wg T pr d2 (Dt ops P2).length [] [] (DS E S) 0 (Dt ops P2) e σ [] [])
  (h:WE T pr (E.del kill) k S Q):W T pr (.c (.drw kill qa ops)::k) e σ Q:=by
 simp only[Af,beq_iff_eq]at hp;obtain⟨⟨⟨⟨⟨⟨⟨⟨jt,ju⟩,qq⟩,p1⟩,p2⟩,s1⟩,s2⟩,l1⟩,l2⟩:=hp
 have jw:∀ {e1:Env} {σ1:St} {P:Env->St->Prop},W T pr [] (e1.del []) σ1 P->P e1 σ1:=fun {e1 σ1 P} h=>by
  have hd:∀ e:Env,e.del []=e:=fun e=>by
   induction e with
   | nil=>rfl
   | cons p r ih=>obtain⟨m,v⟩:=p;simp only[Env.del,List.elem_nil,F6,if_false,ih]
  rw[hd,Au8]at h;exact h
 obtain⟨e1,σ1,t1,g1⟩:=Uc _ _ _ _ _ _ h1;obtain⟨rfl,rfl⟩:=jw g1;obtain⟨e2,σ2,t2,g3⟩:=Uc _ _ _ _ _ _ h2;obtain⟨g4,rfl⟩:=jw g3;refine Bc1 ?_ ⟨_,_,A3v a b (by simpa using qq) (Ask P1 d1 _ rfl l1 p1 s1 t1 fun _=>rfl) (Ask P2 d2 _ rfl l2 p2 s2 t2 (A3w g4)),h⟩;simp only[Af,beq_iff_eq];exact⟨jt,ju⟩
def GS(σ:St)(m e:Nat)(u:V)(xs:List (List V)):Prop:=
 ((∀ r∈xs,r.length=m)/\∀ r∈xs,r.all V.rowB=true)/\((u=.nils/\xs=[])\/∃ i g r q,u=.sl i g 0 xs.length m true/\σ[i]?=some (.row (xs.flatten++r) e g 0)/\r.length=q*m/\r.all V.rowB=true)
def Zn{σ:St}{m e:Nat}:GS σ m e .nils []:=⟨⟨by simp,by simp⟩,.inl ⟨rfl,rfl⟩⟩
def I9{σ:St}{m e:Nat}{u:V}{xs:List (List V)}(h:GS σ m e u xs):u.cellB=true:=by
 rcases h.2 with⟨rfl,-⟩ | ⟨i,g,r,q,rfl,-⟩<;>rfl
def Zo{σ:St}{m e:Nat}{u:V}{xs:List (List V)}(h:GS σ m e u xs):Mx u=some (iV (xs.length:Int)):=by
 rcases h.2 with⟨rfl,rfl⟩ | ⟨i,g,r,q,rfl,-⟩<;>rfl
def Cy{σ:St}{m e:Nat}{u:V}{xs:List (List V)}(h:GS σ m e u xs):∀ i∈u.refs,i<σ.length:=by
 rcases h.2 with⟨rfl,rfl⟩ | ⟨i,g,r,q,rfl,ho,-⟩
 .intro i hi;simp[V.refs]at hi
 .intro j hj;simp[V.refs]at hj;subst hj;exact(Ak.1 ho).1
def Hm{σ τ:St}{m e:Nat}{u:V}{xs:List (List V)}(h:GS σ m e u xs)(hk:∀ i∈u.refs,τ[i]?=σ[i]?):GS τ m e u xs:=by
 refine⟨h.1,?_⟩;rcases h.2 with h2 | ⟨i,g,r,q,rfl,ho,h2⟩
 .exact .inl h2
 .exact .inr ⟨i,g,r,q,rfl,by rw[hk i (by simp[V.refs])];exact ho,h2⟩
def N9{cs:List V}(h:cs.all V.rowB=true):Ah cs=[]:=G8 h
def V5{σ:St}{m e bytes:Nat}{u:V}{xs:List (List V)}{row:List V}(h:GS σ m e u xs)(hm:0<m)(qw:row.length=m)(qc:row.all V.rowB=true)(hb:(xs.length+1)*bytes<=140737488355328):
  ∃ u' σ',D6 bytes (m,e) u (.lst 1 [row]) σ=some (u',σ')/\GS σ' m e u' (xs++[row])/\σ.length<=σ'.length/\(∀ j,j<σ.length->j ∉ u.refs->σ'[j]?=σ[j]?)/\(∀ j∈u'.refs,j∈u.refs\/σ.length<=j)/\(Cl σ->Cl σ'):=by
 obtain⟨⟨hl,hr⟩,h⟩:=h;have ql:([row].all fun r=>r.length==m)=true:=by simp[qw]
 have jn:∀ r∈xs++[row],r.length=m:=fun r hx=>by
  rcases B8.1 hx with hx | hx
  .exact hl r hx
  .rw[Eo.1 hx];exact qw
 have jp:∀ r∈xs++[row],r.all V.rowB=true:=fun r hx=>by
  rcases B8.1 hx with hx | hx
  .exact hr r hx
  .rw[Eo.1 hx];exact qc
 unfold D6;simp only[Ea,Db];unfold J6;rw[if_pos ⟨ql,hm⟩];rcases h with⟨rfl,rfl⟩ | ⟨i,g,r,q,rfl,ho,hq,qA⟩
 .simp only;rw[if_pos (by simpa using hb),if_neg (by simp)];refine⟨_,_,rfl,⟨⟨jn,jp⟩,.inr ⟨σ.length,0,[],0,rfl,by simp,by simp,rfl⟩⟩,by simp,fun j hj _=>B6 hj,fun j hj=>?_,fun hc=>I8 hc ?_⟩
  .simp[V.refs]at hj;exact .inr (by omega)
  .simp[Ob.refs,N9 qc]
 .have hi:i<σ.length:=(Ak.1 ho).1;have hf:=Gw hl;have jg:(xs.flatten++r).length=xs.length*m+q*m:=by rw[Al,hf,hq]
  simp only;rw[if_pos ⟨hb,trivial⟩];simp only[ho,if_true];rw[if_neg (by simp),if_pos ⟨trivial,trivial,trivial,Au _⟩];have qE:(xs.length+[row].length)*m=xs.length*m+m:=by rw[Hw,Ep]
  by_cases h0:q=0
  .subst h0;have jE:r=[]:=Qp.1 (by omega);subst jE;rw[if_neg (by rw[jg,qE];omega),if_pos (by rw[jg];omega)];refine⟨_,_,rfl,⟨⟨jn,jp⟩,.inr ⟨i,g+1,[],0,by rw[Al],?_,by simp,rfl⟩⟩,by simp,fun j hj hn=>?_,fun j hj=>.inl hj,fun hc=>Gc hc ?_⟩
   .rw[B5 hi];simp
   .have:i≠j:=fun h=>hn (by subst h;simp[V.refs])
    rw[Bh this]
   .simp only[Ob.refs,B3];rw[G9,N9 (Im hr)];simp[N9 qc]
  .have ke:m<=q*m:=Nat.le_mul_of_pos_left m (by omega);rw[if_pos (by rw[jg,qE];omega),qE];have e1:(xs.flatten++r).take (xs.length*m)=xs.flatten:=by rw[<-hf,Sv]
   have e2:(xs.flatten++r).drop (xs.length*m+m)=r.drop m:=by rw[<-hf,Af2,Fo (by omega),Cr,Nat.add_sub_cancel_left]
   rw[e1,e2];have jF:(r.drop m).all V.rowB=true:=Bp.2 fun c hc=>Bp.1 qA c (Sf hc)
   refine⟨_,_,rfl,⟨⟨jn,jp⟩,.inr ⟨i,g,r.drop m,q - 1,by rw[Al],?_,?_,jF⟩⟩,by simp,fun j hj hn=>?_,fun j hj=>.inl hj,fun hc=>Gc hc ?_⟩
   .rw[B5 hi];simp
   .rw[D1,hq,Nat.sub_mul,Nat.one_mul]
   .have:i≠j:=fun h=>hn (by subst h;simp[V.refs])
    rw[Bh this]
   .simp only[Ob.refs];rw[G9,G9,N9 (Im hr),N9 jF];simp[N9 qc]
def A8k(n d:Nat):Dq (some (iV (n:Int))) d=some n:=by
 unfold Dq;simp
def Aub{σ:St}{m e:Nat}{u:V}{xs:List (List V)}{row:List V}(h:GS σ m e u (xs++[row])):∃ u',Je m u none (some (iV (xs.length:Int))) none=some u'/\GS σ m e u' xs/\u'.refs=u.refs:=by
 obtain⟨⟨hl,hr⟩,h⟩:=h;rcases h with⟨-,h⟩ | ⟨i,g,r,q,rfl,ho,hq,qA⟩
 .simp at h
 .refine⟨.sl i g 0 xs.length m true,?_,⟨⟨fun r hx=>hl r (O9 _ hx),fun r hx=>hr r (O9 _ hx)⟩,.inr ⟨i,g,row++r,q+1,rfl,?_,?_,?_⟩⟩,rfl⟩
  .simp only[Je,A8k,Dq];simp
  .rw[ho];simp
  .rw[Al,hq,hl row (by simp),Ep,Abg]
  .rw[List.all_append,hr row (by simp),qA];rfl
def Bc3{σ:St}{m e:Nat}{u:V}{xs:List (List V)}{row:List V}{i:Nat}(h:GS σ m e u xs)(hi:xs[i]?=some row):∃ j g cs,u=.sl j g 0 xs.length m true/\σ[j]?=some (.row cs e g 0)/\i*m+m<=cs.length/\(cs.drop (i*m)).take m=row:=by
 obtain⟨⟨hl,hr⟩,h⟩:=h;have qY:=(Ak.1 hi).1;rcases h with⟨-,rfl⟩ | ⟨j,g,r,q,rfl,ho,hq,qA⟩
 .simp at hi
 .have hf:=Gw hl;have kb:i*m+m<=xs.length*m:=by rw[<-Ep];exact Fp m qY
  refine⟨j,g,_,rfl,ho,by rw[Al,hf];omega,?_⟩
  have hs:xs=xs.take i++row::xs.drop (i+1):=by
   have h1:=Fd qY;rw[(Ak.1 hi).2]at h1;rw[<-h1,Gq]
  have ht:(xs.take i).flatten.length=i*m:=by
   rw[Gw fun r hr=>hl r (Ik hr),Eg,Su (by omega)]
  have qw:=hl row (Ge hi)
  conv=>lhs;rw[hs]
  rw[Sh,Dv,Da,Da,<-ht,Af7,<-qw,Sv]
def Akj{σ:St}{m e:Nat}{u:V}{xs:List (List V)}(h:GS σ m e u xs)(hm:0<m):∃ z,OC σ u (SL z 0 xs):=by
 obtain⟨⟨hl,hr⟩,h⟩:=h;rcases h with⟨rfl,rfl⟩ | ⟨i,g,r,q,rfl,ho,hq,qA⟩
 .exact⟨true,Ff rfl⟩
 .refine⟨false,fun js hj d=>?_⟩
  have hi:js.elem i=true:=by
   have:=hj i (by simp[V.refs]);simpa using this
  have hf:=Gw hl;unfold Fa;rw[if_neg (by simp[V.rowB])];simp only[hi,if_true,ho];rw[if_pos ⟨trivial,hm,by rw[Al,hf];omega⟩,I4,<-hf,Sv,Tn fun c hc=>?_]
  .simp only[Gb,S0 hl];rfl
  .obtain⟨r,jW,jO⟩:=Aa7.1 hc;exact Sz (Bp.1 (hr r jW) c jO)
def Bc4(a b c cells:List V)(h:c.length=cells.length):Or (a++(c++b)) a.length cells=some (a++(cells++b)):=by
 unfold Or;rw[if_pos (by simp only[Al];omega),Sv,<-Da a c b,Af2];rw[Fo (by simp only[Al];omega),Cr,Al,<-h];simp
def Bc5{σ:St}{m e:Nat}{u:V}{xs:List (List V)}{r0 row:List V}(h:GS σ m e u (xs++[r0]))(qw:row.length=m)(qc:row.all V.rowB=true):∃ j g cs',u=.sl j g 0 (xs.length+1) m true/\j<σ.length/\(∀ τ:St,τ[j]?=σ[j]?->Pq τ m (.ptr j g (0+xs.length*m)) (.agg row)=some (τ.set j (.row cs' e g 0))/\(j<τ.length->GS (τ.set j (.row cs' e g 0)) m e u (xs++[row])))/\Ah cs'=[]:=by
 obtain⟨⟨hl,hr⟩,h⟩:=h;rcases h with⟨-,h⟩ | ⟨j,g,r,q,rfl,ho,hq,qA⟩
 .simp at h
 .have hf:=Gw fun r hx=>hl r (O9 _ hx)
  have jE:=hl r0 (by simp);have hx:xs.flatten.all V.rowB=true:=Im fun r hx=>hr r (O9 _ hx)
  have qN:row.all V.cellB=true:=Adj qc;have jP:(V.agg row).cells=row:=rfl;refine⟨j,g,xs.flatten++(row++r),by simp,(Ak.1 ho).1,fun τ hk=>⟨?_,fun hj=>⟨⟨fun r hx=>?_,fun r hx=>?_⟩,.inr ⟨j,g,r,q,by simp,?_,hq,qA⟩⟩⟩,?_⟩
  .simp only[Pq,hk,ho,jP];rw[if_pos ⟨trivial,Au _,qw,qN⟩,E3,<-hf];have:(xs++[r0]).flatten++r=xs.flatten++(r0++r):=by simp
   rw[this,Bc4 _ _ _ _ (by omega)];rfl
  .rcases B8.1 hx with hx | hx
   .exact hl r (O9 _ hx)
   .rw[Eo.1 hx];exact qw
  .rcases B8.1 hx with hx | hx
   .exact hr r (O9 _ hx)
   .rw[Eo.1 hx];exact qc
  .rw[B5 hj];simp
  .rw[G9,G9,N9 hx,N9 qc,N9 qA];rfl
/-! what a struct and its lists may change -/
def fp(σ:St)(w:Nat):List Nat:=w::match σ[w]? with
 | some ob=>ob.refs
 | none=>[]
def Ajj{σ:St}{w:Nat}{cs:List V}{t g z:Nat}(h:σ[w]?=some (.row cs t g z)):fp σ w=w::Ah cs:=by
 unfold fp;rw[h];rfl
def FW(w:Nat)(σ τ:St):Prop:=σ.length<=τ.length/\(∀ j,j<σ.length->j ∉ fp σ w->τ[j]?=σ[j]?)/\(∀ j∈fp τ w,j∈fp σ w\/σ.length<=j)
def Ac3(w:Nat)(σ:St):FW w σ σ:=⟨Ai _,fun _ _ _=>rfl,fun _ h=>.inl h⟩
def Fr{w:Nat}{σ τ υ:St}(h:FW w σ τ)(h':FW w τ υ):FW w σ υ:=by
 refine⟨Cw h.1 h'.1,fun j hj hn=>?_,fun j hj=>?_⟩
 .rw[h'.2.1 j (by have:=h.1;omega) fun hm=>?_,h.2.1 j hj hn];rcases h.2.2 j hm with h2 | h2
  .exact hn h2
  .omega
 .rcases h'.2.2 j hj with h2 | h2
  .exact h.2.2 j h2
  .exact .inr (by have:=h.1;omega)
def Ac4{w:Nat}{σ:St}(l:St)(hw:w<σ.length):FW w σ (σ++l):=by
 refine⟨by simp,fun j hj _=>B6 hj,fun j hj=>?_⟩;unfold fp at hj ⊢;rw[B6 hw]at hj;exact .inl hj
def Auc{w:Nat}{σ τ:St}{j:Nat}{x:Ob}(h:FW w σ τ)(hj:σ.length<=j)(hw:w<σ.length):FW w σ (τ.set j x):=by
 refine⟨by simpa using h.1,fun i hi hn=>?_,fun i hi=>?_⟩
 .rw[Bh (by omega)];exact h.2.1 i hi hn
 .unfold fp at hi;rw[Bh (by omega)]at hi;exact h.2.2 i hi
def Ajk{w:Nat}{σ τ:St}{cs:List V}{t g z:Nat}(h:FW w σ τ)(hw:w<σ.length)(hc:∀ j∈Ah cs,j∈fp σ w\/σ.length<=j):FW w σ (τ.set w (.row cs t g z)):=by
 have hm:w∈fp σ w:=by unfold fp;exact C5
 refine⟨by simpa using h.1,fun i hi hn=>?_,fun i hi=>?_⟩
 .rw[Bh (fun e=>hn (by rw[<-e];exact hm))];exact h.2.1 i hi hn
 .rw[Ajj (B5 (by have:=h.1;omega))]at hi;rcases Bj.1 hi with rfl | hi
  .exact .inl hm
  .exact hc i hi
def Aud{w:Nat}{σ τ υ:St}{B:List Nat}(h:FW w σ τ)(hw:w<σ.length)(hl:τ.length<=υ.length)(hB:∀ j∈B,j∈fp σ w\/σ.length<=j)(hk:∀ j,j<τ.length->j ∉ B->υ[j]?=τ[j]?)(jY:w ∉ B):FW w σ υ:=by
 refine⟨Cw h.1 hl,fun i hi hn=>?_,fun i hi=>?_⟩
 .rw[hk i (by have:=h.1;omega) fun hm=>?_,h.2.1 i hi hn];rcases hB i hm with h2 | h2
  .exact hn h2
  .omega
 .unfold fp at hi;rw[hk w (by have:=h.1;omega) jY]at hi;exact h.2.2 i hi
