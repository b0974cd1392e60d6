/- Walks: which statements are shaped. -/
import Derived.Test.YthlbbjcbmojocaaGreatDoorLt
set_option linter.all false
namespace Go.Proofs.YthlbbjcbmojocaaGreatDoor.KM
open Go
set_option maxHeartbeats 2000000 in
def Awh(s:Sp)(hi:∀ x∈s.idx,Fn TT PT 117 [.agg x.row] (.bool (Gb x)))(he:Fn TT PT 117 [.agg s.ex.row] (.bool (Gb s.ex)))(qP:s.ex.l.length<=1000000000)(qY:s.idx.length<=1000000000)(jN:s.body.length<=1000000000)(jX:s.els.length<=1000000000)
  (hb:Fn TT PT 65 [SL s.bz s.bt (s.body.map Sp.row)] (.bool (Iw s.body))) (hs:Fn TT PT 65 [SL s.ez s.et (s.els.map Sp.row)] (.bool (Iw s.els))):Fn TT PT 93 [.agg s.row] (.bool (Mi s)):=by
 obtain⟨op,line,nm,arg,iz,it,idx,ex,bz,bt,body,ez,et,els⟩:=s;have hr:=Ox ⟨op,line,nm,arg,iz,it,idx,ex,bz,bt,body,ez,et,els⟩;have hR:=A0g ⟨op,line,nm,arg,iz,it,idx,ex,bz,bt,body,ez,et,els⟩;generalize Mi ⟨op,line,nm,arg,iz,it,idx,ex,bz,bt,body,ez,et,els⟩=R at hR ⊢;have qx:=Awf ex qP;simp only at hr hR hi he hb hs qY jN jX qP;rw[hr];clear hr;have qU:=A0 ex;rw[qU]at he qx ⊢;unfold Ahd at hR;simp only at hR;generalize ex.op=xo at he qx ⊢;generalize ex.n=xn at he qx ⊢;generalize ex.nm=xm at he qx ⊢;generalize ex.z=xz at he qx ⊢;generalize ex.t=xt at he qx ⊢;generalize ex.l=xl at he qx qP ⊢;clear qU;simp only[Ml,Fd];obtain⟨A3,h3⟩:∃ b,b=(if Fq op then nm==[] else B3 nm):=⟨_,rfl⟩;obtain⟨A4,h4⟩:∃ b,b=(if op=15 then B3 arg else arg==[]):=⟨_,rfl⟩;obtain⟨A5,h5⟩:∃ b,b=decide (idx.length<=1):=⟨_,rfl⟩;obtain⟨A6,h6⟩:∃ b,b=(op==1||idx.isEmpty):=⟨_,rfl⟩;obtain⟨A7,h7⟩:∃ b,b=idx.all Gb:=⟨_,rfl⟩;obtain⟨A8,h8⟩:∃ b,b=(if D1 op then Gb ex else Aax ex):=⟨_,rfl⟩;obtain⟨A9,h9⟩:∃ b,b=(Bu op||body.isEmpty):=⟨_,rfl⟩;obtain⟨A10,jx⟩:∃ b,b=(op==2||els.isEmpty):=⟨_,rfl⟩;rw[<-h3,<-h4,<-h5,<-h6,<-h7,<-h8,<-h9,<-jx]at hR;obtain⟨B1,jJ⟩:∃ b,b=Iw body:=⟨_,rfl⟩;obtain⟨B2,jK⟩:∃ b,b=Iw els:=⟨_,rfl⟩;rw[<-jJ]at hR hb;rw[<-jK]at hR hs;have qg:(idx.map Xp.row).length=idx.length:=Ba ..;have qu:(body.map Sp.row).length=body.length:=Ba ..;have qz:(els.map Sp.row).length=els.length:=Ba ..;have qy:=Qu nm;have jf:=Qu arg;refine Bn T93 rfl ?_;refine E8 (fun e σ=>e=[(1,.ptr 0 0 0)]/\σ=[.row [iV op,iV line,.str nm,.str arg,SL iz it (idx.map Xp.row),iV xo,iV xn,.str xm,SL xz xt (xl.map Xp.row),SL bz bt (body.map Sp.row),SL ez et (els.map Sp.row)] 68 0 0]) (fun k' hk=>?_) ?_
 .simp only[go_sem];exact hk _ _ ⟨rfl,rfl⟩
 rintro e σ ⟨rfl,rfl⟩;refine E8 (fun e σ=>(e=[(1,.ptr 0 0 0)]/\σ=[.row [iV op,iV line,.str nm,.str arg,SL iz it (idx.map Xp.row),iV xo,iV xn,.str xm,SL xz xt (xl.map Xp.row),SL bz bt (body.map Sp.row),SL ez et (els.map Sp.row)] 68 0 0])/\(1<=op/\op<=15)/\R=((A3&&(A4&&(A5&&(A6&&(A7&&(A8&&(A9&&(A10))))))))&&(B1&&B2))) (fun k' hk=>?_) ?_
 .by_cases g1:op<1
  .rw[decide_eq_false (show ¬ 1<=op by omega)]at hR;subst hR;have f1:(op<1)=True:=eq_true g1;simp only[go_sem,f1];exact Ao rfl rfl
  have f1:(op<1)=False:=eq_false g1;rw[decide_eq_true (show 1<=op by omega)]at hR;by_cases g2:15<op
  .rw[decide_eq_false (show ¬ op<=15 by omega)]at hR;subst hR;have f2:((15:Int)<op)=True:=eq_true g2;simp only[go_sem,f1,f2,gt_iff_lt];exact Ao rfl rfl
  have f2:((15:Int)<op)=False:=eq_false g2;rw[decide_eq_true (show op<=15 by omega)]at hR;simp only[go_sem,f1,f2,gt_iff_lt];exact hk _ _ ⟨⟨rfl,rfl⟩,⟨by omega,by omega⟩,by rw[hR];rfl⟩
 clear hR;rintro e σ ⟨⟨rfl,rfl⟩,kc,hR⟩;refine E8 (fun e σ=>e=[(1,.ptr 0 0 0),(3,.bool (Fq op))]/\σ=[.row [iV op,iV line,.str nm,.str arg,SL iz it (idx.map Xp.row),iV xo,iV xn,.str xm,SL xz xt (xl.map Xp.row),SL bz bt (body.map Sp.row),SL ez et (els.map Sp.row)] 68 0 0]) (fun k' hk=>?_) ?_
 .unfold Fq at hk;cases q2:(op==2);rotate_left
  .simp only[go_sem,q2];exact hk _ _ ⟨by rw[q2];rfl,rfl⟩
  cases q3:(op==3);rotate_left
  .simp only[go_sem,q2,q3];exact hk _ _ ⟨by rw[q2,q3];rfl,rfl⟩
  cases q7:(op==7);rotate_left
  .simp only[go_sem,q2,q3,q7];exact hk _ _ ⟨by rw[q2,q3,q7];rfl,rfl⟩
  cases q8:(op==8)
  .simp only[go_sem,q2,q3,q7,q8];exact hk _ _ ⟨by rw[q2,q3,q7,q8];rfl,rfl⟩
  .simp only[go_sem,q2,q3,q7,q8];exact hk _ _ ⟨by rw[q2,q3,q7,q8];rfl,rfl⟩
 rintro e σ ⟨rfl,rfl⟩;refine E8 (fun e σ=>(e=[(1,.ptr 0 0 0)]/\σ=[.row [iV op,iV line,.str nm,.str arg,SL iz it (idx.map Xp.row),iV xo,iV xn,.str xm,SL xz xt (xl.map Xp.row),SL bz bt (body.map Sp.row),SL ez et (els.map Sp.row)] 68 0 0])/\R=((A4&&(A5&&(A6&&(A7&&(A8&&(A9&&(A10)))))))&&(B1&&B2))) (fun k' hk=>?_) ?_
 .cases hn:Fq op
  .rw[hn,if_neg (by simp)]at h3;rw[<-h3]at qy;cases A3
   .subst hR;simp only[go_sem,Aw,Au];refine Ad qy rfl ?_;simp only[go_sem,Aw,Au];exact Ao rfl rfl
   .simp only[go_sem,Aw,Au];refine Ad qy rfl ?_;simp only[go_sem,Aw,Au];exact hk _ _ ⟨⟨rfl,rfl⟩,by rw[hR];rfl⟩
  .rw[hn,if_pos rfl]at h3;have h3:=h3.symm;cases A3
   .subst hR;simp only[go_sem,Aw,Au,h3];exact Ao rfl rfl
   .simp only[go_sem,Aw,Au,h3];exact hk _ _ ⟨⟨rfl,rfl⟩,by rw[hR];rfl⟩
 clear hR;rintro e σ ⟨⟨rfl,rfl⟩,hR⟩;refine E8 (fun e σ=>(e=[(1,.ptr 0 0 0)]/\σ=[.row [iV op,iV line,.str nm,.str arg,SL iz it (idx.map Xp.row),iV xo,iV xn,.str xm,SL xz xt (xl.map Xp.row),SL bz bt (body.map Sp.row),SL ez et (els.map Sp.row)] 68 0 0])/\R=((A5&&(A6&&(A7&&(A8&&(A9&&(A10))))))&&(B1&&B2))) (fun k' hk=>?_) ?_
 .by_cases qW:op=15
  .rw[if_pos qW]at h4;rw[<-h4]at jf;have qK:(op==15)=true:=by simp[qW]
   cases A4
   .subst hR;simp only[go_sem,Aw,Au,qK,bne];refine Ad jf rfl ?_;simp only[go_sem,Aw,Au];exact Ao rfl rfl
   .simp only[go_sem,Aw,Au,qK,bne];refine Ad jf rfl ?_;simp only[go_sem,Aw,Au,qK,bne];exact hk _ _ ⟨⟨rfl,rfl⟩,by rw[hR];rfl⟩
  .rw[if_neg qW]at h4;have h4:=h4.symm;have qK:(op==15)=false:=by simp[qW]
   cases A4
   .subst hR;simp only[go_sem,Aw,Au,h4,qK,bne];exact Ao rfl rfl
   .simp only[go_sem,Aw,Au,h4,qK,bne];exact hk _ _ ⟨⟨rfl,rfl⟩,by rw[hR];rfl⟩
 clear hR;rintro e σ ⟨⟨rfl,rfl⟩,hR⟩;refine E8 (fun e σ=>(e=[(1,.ptr 0 0 0)]/\σ=[.row [iV op,iV line,.str nm,.str arg,SL iz it (idx.map Xp.row),iV xo,iV xn,.str xm,SL xz xt (xl.map Xp.row),SL bz bt (body.map Sp.row),SL ez et (els.map Sp.row)] 68 0 0])/\R=((A8&&(A9&&(A10)))&&(B1&&B2))) (fun k' hk=>?_) ?_
 .have hN:idx.length=0\/idx.length=1\/2<=idx.length:=by omega
  rcases hN with h | h | h
  .have qm:idx=[]:=X2.1 h;have f1:((1:Int)<(idx.length:Int))=False:=eq_false (by omega);have f2:((0:Int)<(idx.length:Int))=False:=eq_false (by omega);have f3:((idx.length:Int)==1)=false:=by simp[h]
   rw[h5,h6,h7]at hR
   have hR:R=((A8&&(A9&&A10))&&(B1&&B2)):=by rw[hR,qm];cases(op==1)<;>rfl
   cases q1:(op==1)
   .simp only[go_sem,Aw,Au,q1,bne,qg,f1,f2,f3,gt_iff_lt];exact hk _ _ ⟨⟨rfl,rfl⟩,hR⟩
   .simp only[go_sem,Aw,Au,q1,bne,qg,f1,f2,f3,gt_iff_lt];exact hk _ _ ⟨⟨rfl,rfl⟩,hR⟩
  .obtain⟨a,qm⟩:=Acd.1 h;have f1:((1:Int)<(idx.length:Int))=False:=eq_false (by omega);have f2:((0:Int)<(idx.length:Int))=True:=eq_true (by omega);have f3:((idx.length:Int)==1)=true:=by simp[h]
   have qU:=A0 a;have qM:=Df a;have hf:=hi a (by rw[qm];exact E4.2 rfl);have qG:(idx.map Xp.row)[0]?=some [iV a.op,iV a.n,.str a.nm,SL a.z a.t (a.l.map Xp.row)]:=by rw[qm,<-qU];rfl
   rw[qU]at hf qM;have h5:A5=true:=by rw[h5,qm];rfl
   have h7:A7=Gb a:=by rw[h7,qm,Av,Be,U9]
   have h6:A6=(op==1):=by rw[h6,qm];simp
   rw[h5,h6,h7]at hR;cases q1:(op==1)
   .rw[q1]at hR;subst hR;simp only[go_sem,Aw,Au,q1,bne,qg,f1,f2,f3,gt_iff_lt];exact Ao rfl rfl
   rw[q1]at hR;cases qq:Gb a
   .rw[qq]at hR hf;subst hR;simp only[go_sem,Aw,Au,q1,bne,qg,f1,f2,f3,gt_iff_lt,qG];refine Ad hf (by simp only[go_sem]) ?_;simp only[go_sem,Aw,Au];exact Ao rfl rfl
   .rw[qq]at hR hf;simp only[go_sem,Aw,Au,q1,bne,qg,f1,f2,f3,gt_iff_lt,qG];refine Ad hf (by simp only[go_sem]) ?_;simp only[go_sem,Aw,Au];exact hk _ _ ⟨⟨rfl,rfl⟩,hR⟩
  .have f1:((1:Int)<(idx.length:Int))=True:=eq_true (by omega);rw[show A5=false from by rw[h5];exact decide_eq_false (by omega)]at hR;subst hR;simp only[go_sem,Aw,Au,qg,f1,gt_iff_lt];exact Ao rfl rfl
 clear hR;rintro e σ ⟨⟨rfl,rfl⟩,hR⟩;refine E8 (fun e σ=>e=[(1,.ptr 0 0 0),(4,.bool (D1 op))]/\σ=[.row [iV op,iV line,.str nm,.str arg,SL iz it (idx.map Xp.row),iV xo,iV xn,.str xm,SL xz xt (xl.map Xp.row),SL bz bt (body.map Sp.row),SL ez et (els.map Sp.row)] 68 0 0]) (fun k' hk=>?_) ?_
 .unfold D1 at hk;cases q1:(op==1);rotate_left
  .simp only[go_sem,q1];exact hk _ _ ⟨by rw[q1];rfl,rfl⟩
  cases q2:(op==2);rotate_left
  .simp only[go_sem,q1,q2];exact hk _ _ ⟨by rw[q1,q2];rfl,rfl⟩
  cases q3:(op==3);rotate_left
  .simp only[go_sem,q1,q2,q3];exact hk _ _ ⟨by rw[q1,q2,q3];rfl,rfl⟩
  cases q14:(op==14)
  .simp only[go_sem,q1,q2,q3,q14];exact hk _ _ ⟨by rw[q1,q2,q3,q14];rfl,rfl⟩
  .simp only[go_sem,q1,q2,q3,q14];exact hk _ _ ⟨by rw[q1,q2,q3,q14];rfl,rfl⟩
 rintro e σ ⟨rfl,rfl⟩;refine E8 (fun e σ=>(e=[(1,.ptr 0 0 0)]/\σ=[.row [iV op,iV line,.str nm,.str arg,SL iz it (idx.map Xp.row),iV xo,iV xn,.str xm,SL xz xt (xl.map Xp.row),SL bz bt (body.map Sp.row),SL ez et (els.map Sp.row)] 68 0 0])/\R=((A9&&(A10))&&(B1&&B2))) (fun k' hk=>?_) ?_
 .cases hn:D1 op
  .rw[hn,if_neg (by simp)]at h8;rw[<-h8]at qx;cases A8
   .subst hR;simp only[go_sem,Aw,Au];refine Ad qx (by simp only[go_sem]) ?_;simp only[go_sem,Aw,Au];exact Ao rfl rfl
   .simp only[go_sem,Aw,Au];refine Ad qx (by simp only[go_sem]) ?_;simp only[go_sem,Aw,Au];exact hk _ _ ⟨⟨rfl,rfl⟩,by rw[hR];rfl⟩
  .rw[hn,if_pos rfl]at h8;rw[<-h8]at he;cases A8
   .subst hR;simp only[go_sem,Aw,Au];refine Ad he (by simp only[go_sem]) ?_;simp only[go_sem,Aw,Au];exact Ao rfl rfl
   .simp only[go_sem,Aw,Au];refine Ad he (by simp only[go_sem]) ?_;simp only[go_sem,Aw,Au];exact hk _ _ ⟨⟨rfl,rfl⟩,by rw[hR];rfl⟩
 clear hR;rintro e σ ⟨⟨rfl,rfl⟩,hR⟩;refine E8 (fun e σ=>e=[(1,.ptr 0 0 0),(5,.bool (Bu op))]/\σ=[.row [iV op,iV line,.str nm,.str arg,SL iz it (idx.map Xp.row),iV xo,iV xn,.str xm,SL xz xt (xl.map Xp.row),SL bz bt (body.map Sp.row),SL ez et (els.map Sp.row)] 68 0 0]) (fun k' hk=>?_) ?_
 .unfold Bu at hk;by_cases g1:2<=op
  .have f1:((2:Int)<=op)=True:=eq_true g1;rw[decide_eq_true g1]at hk;by_cases g2:op<=8
   .have f2:(op<=8)=True:=eq_true g2;rw[decide_eq_true g2]at hk;simp only[go_sem,f1,f2,ge_iff_le];exact hk _ _ ⟨rfl,rfl⟩
   .have f2:(op<=8)=False:=eq_false g2;rw[decide_eq_false g2]at hk;simp only[go_sem,f1,f2,ge_iff_le];exact hk _ _ ⟨rfl,rfl⟩
  .have f1:((2:Int)<=op)=False:=eq_false g1;rw[decide_eq_false g1]at hk;simp only[go_sem,f1,ge_iff_le];exact hk _ _ ⟨rfl,rfl⟩
 rintro e σ ⟨rfl,rfl⟩;refine E8 (fun e σ=>(e=[(1,.ptr 0 0 0)]/\σ=[.row [iV op,iV line,.str nm,.str arg,SL iz it (idx.map Xp.row),iV xo,iV xn,.str xm,SL xz xt (xl.map Xp.row),SL bz bt (body.map Sp.row),SL ez et (els.map Sp.row)] 68 0 0])/\R=(B1&&B2)) (fun k' hk=>?_) ?_
 .have e1:((0:Int)<(body.length:Int))=(body.isEmpty=false):=by
   cases body with
   | nil=>simp
   | cons x r=>simp
  have e2:((0:Int)<(els.length:Int))=(els.isEmpty=false):=by
   cases els with
   | nil=>simp
   | cons x r=>simp
  rw[h9,jx]at hR
  cases hn:Bu op<;>cases hbe:body.isEmpty
  .rw[hn,hbe]at hR;subst hR;simp only[go_sem,Aw,Au,qu,e1,hbe,gt_iff_lt,decide_true];exact Ao rfl rfl
  all_goals
   rw[hn,hbe]at hR
   cases q2:(op==2)<;>cases hee:els.isEmpty
   .rw[q2,hee]at hR;subst hR;simp only[go_sem,Aw,Au,qu,qz,e1,e2,hbe,hee,q2,bne,gt_iff_lt,decide_true];exact Ao rfl rfl
   all_goals
    rw[q2,hee]at hR;simp only[go_sem,Aw,Au,qu,qz,e1,e2,hbe,hee,q2,bne,gt_iff_lt,decide_true];exact hk _ _ ⟨⟨rfl,rfl⟩,by rw[hR];rfl⟩
 clear hR;rintro e σ ⟨⟨rfl,rfl⟩,hR⟩;cases B1
 .subst hR;simp only[go_sem];refine Ad hb (by simp only[go_sem]) ?_;simp only[go_sem];exact Ao rfl rfl
 .cases B2
  .subst hR;simp only[go_sem];refine Ad hb (by simp only[go_sem]) ?_;simp only[go_sem];refine Ad hs (by simp only[go_sem]) ?_;simp only[go_sem];exact Ao rfl rfl
  .subst hR;simp only[go_sem];refine Ad hb (by simp only[go_sem]) ?_;simp only[go_sem];refine Ad hs (by simp only[go_sem]) ?_;simp only[go_sem];exact Ao rfl rfl
def Adu(z:Bool)(t:Nat)(l:List Sp)(hl:l.length<=1000000000)(ih:∀ y∈l,Fn TT PT 93 [.agg y.row] (.bool (Mi y))):Fn TT PT 65 [SL z t (l.map Sp.row)] (.bool (Iw l)):=by
 have qk:(l.map Sp.row).length=l.length:=Ba ..;rw[Alb];obtain⟨R,hR⟩:∃ b,b=l.all Mi:=⟨_,rfl⟩;rw[<-hR];refine Bn T65 rfl ?_;simp only[go_sem];refine Bv (α:=Nat) (fun i=>l.length - i) (fun i=>[(0,SL z t (l.map Sp.row)),(3,iV (i:Int))]) (fun _=>[]) (fun i=>i<=l.length/\l.all Mi=(l.drop i).all Mi) ?_ 0 ⟨Ay _,rfl⟩;rintro i ⟨hi,qo⟩ jh;refine Bw (by delta lp65_0;exact rfl) ?_;by_cases hc:i<l.length
 .have f1:((i:Int)<(l.length:Int))=True:=eq_true (by omega);have qZ:=Bf (show i<9223372036854775807 by omega);obtain⟨a,ha⟩:∃ a,l[i]?=some a:=⟨_,A2 hc⟩;have qM:=F2 a;have hf:=ih a (Hu ha);have qG:(l.map Sp.row)[i]?=some a.row:=by rw[Aq,ha,Fp]
  have qO:l.drop i=a::l.drop (i+1):=by rw[Fv hc,(Ap.1 ha).2]
  have qw:=Lr a;rw[qO,Av]at qo;generalize a.row=ar at qG hf qM qw;have jH:ar.take 11=ar:=Mj (by omega);cases qq:Mi a
  .rw[qq]at hf qo;rw[qo]at hR;subst hR;simp only[go_sem,qk,f1,qG,qw,jH];refine Ad hf (by simp only[go_sem,qM]) ?_;simp only[go_sem];exact Ao rfl rfl
  .rw[qq]at hf qo;simp only[go_sem,qk,f1,qG,qw,jH];refine Ad hf (by simp only[go_sem,qM]) ?_;simp only[go_sem,qZ];exact Bd (jh (i+1) (by omega) ⟨hc,by simpa using qo⟩) rfl
 .have f1:((i:Int)<(l.length:Int))=False:=eq_false (by omega);rw[qo,F4 (by omega)]at hR;subst hR;simp only[go_sem,qk,f1];exact Ao rfl rfl
def Afk:∀ (N:Nat) (s:Sp),Cx s.row<=N->N<=1000000000->Fn TT PT 93 [.agg s.row] (.bool (Mi s))
 | 0,s,h,_=>by rw[Ld]at h;omega
 | N+1,s,h,hN=>by
  have h1:=Ld s;have h2:=I2 (f:=Xp.row) (fun x=>by rw[Fz];omega) s.idx;have h3:=I2 (f:=Sp.row) (fun x=>by rw[Ld];omega) s.body;have h4:=I2 (f:=Sp.row) (fun x=>by rw[Ld];omega) s.els;have h5:=I2 (f:=Xp.row) (fun x=>by rw[Fz];omega) s.ex.l;have h6:=Fz s.ex;refine Awh s (fun x hx=>Aay N x ?_ (by omega)) (Aay N s.ex (by omega) (by omega)) (by omega) (by omega) (by omega) (by omega) (Adu _ _ _ (by omega) fun y hy=>Afk N y ?_ (by omega)) (Adu _ _ _ (by omega) fun y hy=>Afk N y ?_ (by omega))
  .have:=H1 (f:=Xp.row) hx;omega
  .have:=H1 (f:=Sp.row) hy;omega
  .have:=H1 (f:=Sp.row) hy;omega
set_option maxHeartbeats 1000000 in
def A35(d:Dp):Fn TT PT 63 [.agg d.row] (.bool (Rw d)):=by
 obtain⟨kind,line,nm,size,init,on⟩:=d;obtain⟨R,hR⟩:∃ b,b=Rw ⟨kind,line,nm,size,init,on⟩:=⟨_,rfl⟩;rw[<-hR];unfold Rw at hR;simp only at hR;have qy:=Qu nm;have jo:=Qu on;refine Bn T63 rfl ?_;unfold Dp.row;simp only;obtain⟨A3,h3⟩:∃ b,b=B3 nm:=⟨_,rfl⟩;obtain⟨A6,h6⟩:∃ b,b=(if kind=5 then B3 on else on==[]):=⟨_,rfl⟩;obtain⟨A7,h7⟩:∃ b,b=(decide (-9223372036854775808<init)&&(init==0||(kind==1||kind==2))):=⟨_,rfl⟩;rw[<-h3,<-h6,<-h7]at hR;rw[<-h3]at qy;refine E8 (fun e σ=>e=[(1,.ptr 0 0 0)]/\σ=[.row [iV kind,iV line,.str nm,iV size,iV init,.str on] 54 0 0]) (fun k' hk=>?_) ?_
 .simp only[go_sem];exact hk _ _ ⟨rfl,rfl⟩
 rintro e σ ⟨rfl,rfl⟩;refine E8 (fun e σ=>(e=[(1,.ptr 0 0 0)]/\σ=[.row [iV kind,iV line,.str nm,iV size,iV init,.str on] 54 0 0])/\R=(A6&&A7)) (fun k' hk=>?_) ?_
 .by_cases g1:kind<1
  .rw[decide_eq_false (show ¬ 1<=kind by omega)]at hR;subst hR;have f1:(kind<1)=True:=eq_true g1;simp only[go_sem,f1];exact Ao rfl rfl
  have f1:(kind<1)=False:=eq_false g1;rw[decide_eq_true (show 1<=kind by omega)]at hR;by_cases g2:6<kind
  .rw[decide_eq_false (show ¬ kind<=6 by omega)]at hR;subst hR;have f2:((6:Int)<kind)=True:=eq_true g2;simp only[go_sem,f1,f2,gt_iff_lt];exact Ao rfl rfl
  have f2:((6:Int)<kind)=False:=eq_false g2;rw[decide_eq_true (show kind<=6 by omega)]at hR;cases A3
  .subst hR;simp only[go_sem,f1,f2,gt_iff_lt];refine Ad qy rfl ?_;simp only[go_sem,Aw];exact Ao rfl rfl
  by_cases g4:size<0
  .rw[decide_eq_false (show ¬ 0<=size by omega)]at hR;subst hR;have f4:(size<0)=True:=eq_true g4;simp only[go_sem,f1,f2,gt_iff_lt];refine Ad qy rfl ?_;simp only[go_sem,f4,Au];exact Ao rfl rfl
  have f4:(size<0)=False:=eq_false g4;rw[decide_eq_true (show 0<=size by omega)]at hR
  cases q1:(kind==1)<;>cases q5:(size==0)
  .rw[q1,q5]at hR;subst hR;simp only[go_sem,f1,f2,gt_iff_lt];refine Ad qy rfl ?_;simp only[go_sem,f4,Au,Aw,bne,q1,q5];exact Ao rfl rfl
  all_goals
   rw[q1,q5]at hR;simp only[go_sem,f1,f2,gt_iff_lt];refine Ad qy rfl ?_;simp only[go_sem,f4,Au,Aw,bne,q1,q5];exact hk _ _ ⟨⟨rfl,rfl⟩,by rw[hR];rfl⟩
 clear hR;rintro e σ ⟨⟨rfl,rfl⟩,hR⟩;refine E8 (fun e σ=>(e=[(1,.ptr 0 0 0)]/\σ=[.row [iV kind,iV line,.str nm,iV size,iV init,.str on] 54 0 0])/\R=A7) (fun k' hk=>?_) ?_
 .by_cases h5:kind=5
  .rw[if_pos h5]at h6;have q5:(kind==5)=true:=by simp[h5]
   rw[<-h6]at jo;cases A6
   .subst hR;simp only[go_sem,q5,bne,Au,Aw];refine Ad jo rfl ?_;simp only[go_sem,Aw];exact Ao rfl rfl
   .simp only[go_sem,q5,bne,Au,Aw];refine Ad jo rfl ?_;simp only[go_sem,q5,bne,Au,Aw];exact hk _ _ ⟨⟨rfl,rfl⟩,by rw[hR];rfl⟩
  .rw[if_neg h5]at h6;have h6:=h6.symm;have q5:(kind==5)=false:=by simp[h5]
   cases A6
   .subst hR;simp only[go_sem,q5,h6,bne,Au,Aw];exact Ao rfl rfl
   .simp only[go_sem,q5,h6,bne,Au,Aw];exact hk _ _ ⟨⟨rfl,rfl⟩,by rw[hR];rfl⟩
 clear hR;rintro e σ ⟨⟨rfl,rfl⟩,hR⟩;rw[h7]at hR;by_cases g7 : -9223372036854775808<init
 .have f7:((-9223372036854775808:Int)<init)=True:=eq_true g7;rw[decide_eq_true g7]at hR
  cases q0:(init==0)<;>cases q1:(kind==1)<;>cases q2:(kind==2)
  all_goals
   rw[q0,q1,q2]at hR;subst hR;simp only[go_sem,f7,q0,q1,q2,gt_iff_lt];exact Ao rfl rfl
 .have f7:((-9223372036854775808:Int)<init)=False:=eq_false g7;rw[decide_eq_false g7]at hR;subst hR;simp only[go_sem,f7,gt_iff_lt];exact Ao rfl rfl
set_option maxHeartbeats 1000000 in
def A36(p:Gp)(hb:Cx p.row<=1000000000):Fn TT PT 38 [.agg p.row] (.bool (shG p)):=by
 obtain⟨dz,dt,decls,tz,tt,thrs⟩:=p;rw[Agg]at hb;simp only at hb;have b1:=I2 (f:=Dp.row) (fun x=>by rw[A7p];omega) decls;have b2:=I2 (f:=Tp.row) (fun x=>by rw[Xg];omega) thrs;have n1:(decls.map Dp.row).length=decls.length:=Ba ..;have n2:(thrs.map Tp.row).length=thrs.length:=Ba ..;obtain⟨R,hR⟩:∃ b,b=shG ⟨dz,dt,decls,tz,tt,thrs⟩:=⟨_,rfl⟩;rw[<-hR];unfold shG at hR;simp only at hR;unfold Gp.row;simp only;refine Bn T38 rfl ?_;simp only[go_sem];refine Bv (α:=Nat) (fun i=>decls.length - i) (fun i=>[(1,.ptr 0 0 0),(3,iV (i:Int))]) (fun _=>[.row [SL dz dt (decls.map Dp.row),SL tz tt (thrs.map Tp.row)] 28 0 0]) (fun i=>i<=decls.length/\decls.all Rw=(decls.drop i).all Rw) ?_ 0 ⟨Ay _,rfl⟩;rintro i ⟨hi,hc⟩ ih;refine Bw (by delta lp38_0;exact rfl) ?_;rcases Br i decls.length with h' | h'
 .obtain⟨x,hx,hd,hm⟩:=Cw h';rw[hd,Av]at hc;have hf:=A35 x;have qc:x.row=[iV x.kind,iV x.line,.str x.nm,iV x.size,iV x.init,.str x.on]:=rfl;rw[qc]at hf;cases hx1:Rw x
  .rw[hx1]at hf hc;obtain rfl:R=false:=by rw[hR,hc];rfl
   simp only[go_sem,n1,Bp h',Aq,hx,qc];refine Ad hf (by simp only[go_sem]) ?_;simp only[go_sem,Aw];exact Ao rfl rfl
  .rw[hx1]at hf hc;simp only[go_sem,n1,Bp h',Aq,hx,qc];refine Ad hf (by simp only[go_sem]) ?_;simp only[go_sem,Au,Bf (show i<9223372036854775807 by omega)];exact Bd (ih (i+1) (by omega) ⟨h',by simpa using hc⟩) rfl
 .rw[F4 h']at hc;rw[hc]at hR;clear ih hc hi;simp only[go_sem,n1,Ce h'];refine Bv (α:=Nat × St) (fun a=>thrs.length - a.1) (fun a=>[(1,.ptr 0 0 0),(4,iV (a.1:Int))]) (fun a=>a.2) (fun a=>a.1<=thrs.length/\a.2[0]?=some (.row [SL dz dt (decls.map Dp.row),SL tz tt (thrs.map Tp.row)] 28 0 0)/\thrs.all Xy=(thrs.drop a.1).all Xy) ?_ (0,_) ⟨Ay _,rfl,rfl⟩;rintro⟨i,s⟩ ⟨hi,hs,hc⟩ ih;simp only at hi hc hs ih;refine Bw (by delta lp38_2;exact rfl) ?_;rcases Br i thrs.length with h' | h'
  .obtain⟨x,hx,hd,hm⟩:=Cw h';rw[hd,Av]at hc;have jy:=H1 (f:=Tp.row) hm;obtain⟨nm,line,lz,lt,locals,bz,bt,body⟩:=x;rw[Xg]at jy;simp only at jy;have b3:=I2 (f:=fun s=>[V.str s]) (fun x=>by simp only[Cx,V.bulk];omega) locals;have b4:=I2 (f:=Sp.row) (fun x=>by rw[Ld];omega) body;have n3:(locals.map fun s=>[V.str s]).length=locals.length:=Ba ..;have jd:Xy ⟨nm,line,lz,lt,locals,bz,bt,body⟩=false->R=false:=fun h=>by rw[hR,hc,h];rfl
   have jb:Xy ⟨nm,line,lz,lt,locals,bz,bt,body⟩=(locals.all B3&&(B3 nm&&Iw body)):=rfl;have qc:Tp.row ⟨nm,line,lz,lt,locals,bz,bt,body⟩=[.str nm,iV line,SL lz lt (locals.map fun x=>[V.str x]),SL bz bt (body.map Sp.row)]:=rfl;obtain⟨s',jq⟩:∃ s',s'=s++[Ob.row [.str nm,iV line,SL lz lt (locals.map fun x=>[V.str x]),SL bz bt (body.map Sp.row)] 50 0 0]:=⟨_,rfl⟩;have k1:s'[s.length]?=some (.row [.str nm,iV line,SL lz lt (locals.map fun x=>[V.str x]),SL bz bt (body.map Sp.row)] 50 0 0):=by rw[jq,Cj (Ah _),Gc];rfl
   have k0:s'[0]?=some (.row [SL dz dt (decls.map Dp.row),SL tz tt (thrs.map Tp.row)] 28 0 0):=by rw[jq];exact Bx hs
   simp only[go_sem,hs,n2,Bp h',Aq,hx,qc];rw[<-jq];refine Bv (α:=Nat) (fun k=>locals.length - k) (fun k=>[(1,.ptr 0 0 0),(4,iV (i:Int)),(5,.ptr s.length 0 0),(6,iV (k:Int))]) (fun _=>s') (fun k=>k<=locals.length/\locals.all B3=(locals.drop k).all B3) ?_ 0 ⟨Ay _,rfl⟩;rintro k ⟨hk,hl⟩ jh;refine Bw (by delta lp38_1;exact rfl) ?_;rcases Br k locals.length with g' | g'
   .obtain⟨y,hy,qJ,kf⟩:=Cw g';rw[qJ,Av]at hl;have hf:=Qu y;cases hy1:B3 y
    .rw[hy1]at hf hl;obtain rfl:=jd (by rw[jb,hl];rfl);simp only[go_sem,k1,n3,Bp g',Aq,hy];refine Ad hf (by simp only[go_sem]) ?_;simp only[go_sem,Aw];exact Ao rfl rfl
    .rw[hy1]at hf hl;simp only[go_sem,k1,n3,Bp g',Aq,hy];refine Ad hf (by simp only[go_sem]) ?_;simp only[go_sem,Au,Bf (show k<9223372036854775807 by omega)];exact Bd (jh (k+1) (by omega) ⟨g',by simpa using hl⟩) rfl
   .rw[F4 g']at hl;clear jh;have qQ:=Qu nm;have qX:=Adu bz bt body (by omega) fun y hy=>Afk 1000000000 y (by have:=H1 (f:=Sp.row) hy;omega) (Ah _)
    cases hn1:B3 nm
    .rw[hn1]at qQ;obtain rfl:=jd (by rw[jb,hn1];simp);simp only[go_sem,k1,n3,Ce g'];refine Ad qQ (by simp only[go_sem]) ?_;simp only[go_sem,Aw];exact Ao rfl rfl
    .rw[hn1]at qQ;cases hb1:Iw body
     .rw[hb1]at qX;obtain rfl:=jd (by rw[jb,hb1];simp);simp only[go_sem,k1,n3,Ce g'];refine Ad qQ (by simp only[go_sem]) ?_;simp only[go_sem,Au,k1];refine Ad qX (by simp only[go_sem]) ?_;simp only[go_sem,Aw];exact Ao rfl rfl
     .rw[hb1]at qX;simp only[go_sem,k1,n3,Ce g'];refine Ad qQ (by simp only[go_sem]) ?_;simp only[go_sem,Au,k1];refine Ad qX (by simp only[go_sem]) ?_;simp only[go_sem,Au,Bf (show i<9223372036854775807 by omega)];refine Bd (ih (i+1,s') (by simp;omega) ⟨by simp;omega,k0,?_⟩) rfl;simp only;rw[hc,jb,hl,hn1,hb1];simp
  .rw[F4 h']at hc;rw[hc]at hR;by_cases hn:thrs.length=0
   .obtain rfl:R=false:=by
     rw[hR,X2.1 hn];rfl
    have f1:((0:Int)<(thrs.length:Int))=False:=eq_false (by omega);simp only[go_sem,hs,n2,Ce h',gt_iff_lt,f1];exact Ao rfl rfl
   .obtain rfl:R=true:=by
     rw[hR]
     cases thrs with
     | nil=>exact absurd rfl hn
     | cons a l=>rfl
    have f1:((0:Int)<(thrs.length:Int))=True:=eq_true (by omega);simp only[go_sem,hs,n2,Ce h',gt_iff_lt,f1];exact Ao rfl rfl
variable {T:Nat->Option AF} {pr:Nat->Option (List V->Option V)}
inductive LXt (qa:List (List Nat)) (n:Nat):List Nat->List Nat->Prop
 | nil {qb:List Nat}:qb.length=n->LXt qa n qb []
 | cons {qb:List Nat} {i:Nat} {L:List Nat}:i<n->i ∉ qb->(∀ d∈qa.getD i [],d∈qb)->LXt qa n (i::qb) L->LXt qa n qb (i::L)
def Aoq{qa:List (List Nat)}{n:Nat}(hn:qa.length=n)(qB:∀ j,j<n->∀ d∈qa.getD j [],d<j):∀ (fuel t:Nat) (qb:List Nat),qb.length+fuel=n->qb.Nodup->(∀ i∈qb,i<n)->LXt qa n qb (Ly qa fuel t qb)
 | 0,t,qb,hl,_,_=>.nil (by omega)
 | fuel+1,t,qb,hl,hnd,qr=>by
  have qT:∃ j,j<n/\j ∉ qb/\∀ d∈qa.getD j [],d∈qb:=by
   have jS:∃ j,j<n/\j ∉ qb:=by
    rcases Classical.em (∃ j,j<n/\j ∉ qb) with h | h
    .exact h
    .exfalso;have qF:∀ j,j<n->j∈qb:=fun j hj=>Classical.byContradiction fun hc=>h ⟨j,hj,hc⟩
     have h1:=Yu n qb qF;omega
   have:∀ k,∀ j,j<=k->j<n->j ∉ qb->∃ j,j<n/\j ∉ qb/\∀ d∈qa.getD j [],d∈qb:=by
    intro k
    induction k with
    | zero=>
     intro j hj h1 h2;obtain rfl:j=0:=by omega
     exact⟨0,h1,h2,fun d hd=>absurd (qB 0 h1 d hd) (by omega)⟩
    | succ k ih=>
     intro j hj h1 h2;by_cases ql:∀ d∈qa.getD j [],d∈qb
     .exact⟨j,h1,h2,ql⟩
     .obtain⟨d,hd,qO⟩:∃ d,d∈qa.getD j []/\d ∉ qb:=Classical.byContradiction fun hc=>ql fun d hd=>Classical.byContradiction fun qO=>hc ⟨d,hd,qO⟩
      have:=qB j h1 d hd;exact ih d (by omega) (by omega) qO
   obtain⟨j,h1,h2⟩:=jS;exact this j j (Ah _) h1 h2
  unfold Ly;generalize jG:(List.range qa.length).filter (Jr qa qb)=rs
  have qS:0<rs.length:=by
   obtain⟨j,h1,h2,h3⟩:=qT
   have:j∈rs:=by
    rw[<-jG,R6];refine⟨by rw[E5,hn];exact h1,?_⟩;simp only[Jr,Af,Iz,Bi];refine⟨?_,fun d hd=>Gy.2 (h3 d hd)⟩
    cases qP:qb.elem j with
    | false=>rfl
    | true=>exact absurd (Gy.1 qP) h2
   exact Ace this
  have qC:rs[t % rs.length]?=some (rs[t % rs.length]'(Nm _ qS)):=A2 _;generalize rs[t % rs.length]'(Nm _ qS)=i at qC;rw[qC];have qZ:i∈rs:=Hu qC;rw[<-jG,R6]at qZ;obtain⟨jA,qh⟩:=qZ;have hi:i<n:=by rw[E5,hn]at jA;exact jA
  simp only[Jr,Af,Iz,Bi]at qh;have qn:i ∉ qb:=fun h=>by rw[Gy.2 h]at qh;cases qh.1
  have qf:∀ d∈qa.getD i [],d∈qb:=fun d hd=>Gy.1 (qh.2 d hd)
  exact .cons hi qn qf (Aoq hn qB fuel _ (i::qb) (by simp;omega) (Acp.2 ⟨qn,hnd⟩) (fun j hj=>by
   rcases Bj.1 hj with rfl | hj
   .exact hi
   .exact qr j hj))
section
variable {qa:List (List Nat)} {ops:List AI} {e e1:Env} {σ σ1:St} {qL:Nat->Env} {st:Nat->St} {val:Nat->V} {ro:Nat->Option (St->Prop)}
def Alc(qp:StaP qa ops)(q:Sr T pr qa ops.length 0 ops e σ [] [] e1 σ1 qL st val ro):∀ (L qb:List Nat) (E:Env) (S':St),LXt qa ops.length qb L->qb.Nodup->(∀ i∈qb,i<ops.length)->DC qa qb ->
  EnvOK ops val e (·∈qb) E->Ur ops ro st qb S'->∃ E',Ev T pr (.ops (Dd ops L) E S' E' σ1)/\∀ m,E'.get m=e1.get m
 | [],qb,E,S',.nil hl,hn,qr,hdc,hE,⟨m,hm,hS,heff⟩=>by
  have ql:∀ j,j<ops.length->j∈qb:=fun j hj=>An0 hn qr (by omega) hj
  refine⟨E,?_,fun k=>?_⟩
  .have jt:S'=σ1:=by
    rw[hS,<-q.s1,Fe];obtain⟨d,hd⟩:∃ d,m+d=ops.length:=⟨ops.length - m,by omega⟩;rw[<-hd];refine(Lp q id d m (by omega) (fun k h1 h2 he=>?_)).symm;have:=(heff k he).2 (ql k (by omega));omega
   rw[jt];exact .opsNil
  .have ht:=Vj q ops.length (Ah _);have jz:=q.e1;rw[Fe]at jz;rw[<-jz];exact hE.same ht (fun j hj=>⟨fun h=>qr j h,fun h=>ql j h⟩)
 | i::L,qb,E,S',.cons hi qn qf hL,hn,qr,hdc,hE,⟨m,hm,hS,heff⟩=>by
  obtain⟨x,hx⟩:∃ x,ops[i]?=some x:=⟨ops[i],A2 hi⟩
  have jI:∀ j y,i<j->ops[j]?=some y->j∈qb->K9 x y=true:=fun j y jk hy hj=>by
   rcases qp.pair i j x y jk hx hy with h | h
   .exact absurd (O2 hdc _ j i h hj) qn
   .exact h
  have jR:∀ j y,j<i->ops[j]?=some y->j ∉ qb->K9 y x=true:=fun j y jk hy hj=>by
   rcases qp.pair j i y x jk hy hx with h | h
   .exact absurd (Sj hdc qf h) hj
   .exact h
  have qj:∀ {j t:Nat},L7 ops j=some t->∃ y,ops[j]?=some y/\y.dst=some t:=fun {j t} h=>by
   unfold L7 at h
   cases hy:ops[j]? with
   | none=>rw[hy]at h;simp at h
   | some y=>rw[hy]at h;exact⟨y,rfl,by simpa using h⟩
  have qs:Agree (qL i) E x.rd:=fun t ht=>by
   refine(Vj q i (by omega)).same hE (fun j hj=>?_);obtain⟨y,hy,qJ⟩:=qj hj;constructor
   .intro qv;rcases Classical.em (j∈qb) with h | h
    .exact h
    .have:=jR j y qv hy h;simp only[K9,qJ,Af,Iz]at this;have h1:=this.1.1;rw[Gy.2 ht]at h1;cases h1
   .intro jB;rcases P7 j i with h | h | h
    .exact h
    .subst h;exact absurd jB qn
    .have:=jI j y h hy jB;simp only[K9,qJ,Af,Iz]at this;have h1:=this.2;rw[Gy.2 ht]at h1;cases h1
  obtain⟨jj,qd⟩:=q.stp i x hx;simp only[Fe]at jj qd
  have jL:EnvOK ops val e (·∈i::qb) (E.putO x.dst (val i)):=(hE.put hx (fun j t hj jZ jT=>by
   obtain⟨y,hy,qJ⟩:=qj jT;rcases P7 j i with h | h | h
   .exact h
   .subst h;exact absurd hj qn
   .have:=jI j y h hy hj;simp only[K9,jZ,qJ,Af,Iz]at this;have h1:=this.1.2
    simp at h1)).iff (fun j=>by simp[Bj])
  have ji:DC qa (i::qb):=fun j hj d hd=>by
   rcases Bj.1 hj with rfl | hj
   .exact Dj _ (qf d hd)
   .exact Dj _ (hdc j hj d hd)
  have next:∀ S2,Ur ops ro st (i::qb) S2->Sg T pr x E S' (val i) S2->∃ E',Ev T pr (.ops (Dd ops (i::L)) E S' E' σ1)/\∀ m,E'.get m=e1.get m:=fun S2 je ju=>by
   obtain⟨E',h1,h2⟩:=Alc qp q L (i::qb) _ S2 hL (Acp.2 ⟨qn,hn⟩) (fun j hj=>by
    rcases Bj.1 hj with rfl | hj
    .exact hi
    .exact qr j hj) ji jL je
   refine⟨E',?_,h2⟩
   have:Dd ops (i::L)=x::Dd ops L:=by
    unfold Dd;rw[J8,hx]
   rw[this];exact ju.ev h1
  have hb:=An2 qp.dep
  cases hro:ro i with
  | none=>
   rw[hro]at qd;have qd:Sg T pr x (qL i) (st i) (val i) (st (i+1)):=qd
   have qt:∀ k,Uo ops ro k->(k∈qb↔k<i):=fun k ⟨jm,ja⟩=>by
    constructor
    .intro hk;rcases P7 k i with h | h | h
     .exact h
     .subst h;exact absurd hk qn
     .have:=q.d0 i k h jm (by simpa using hro) (by simpa using ja);simp only[Fe]at this;exact absurd (O2 hdc _ k i this hk) qn
    .intro hk;have:=q.d0 k i hk hi (by simpa using ja) (by simpa using hro);simp only[Fe]at this;exact Sj hdc qf this
   have jM:S'=st i:=by
    rw[hS];rcases Ac3 m i with qD | qD
    .obtain⟨d,rfl⟩:=Pz qD
     exact(Lp q id d m (by omega) (fun k a1 a2 he=>by
      have:=(heff k he).2 ((qt k he).2 a2)
      omega)).symm
    .obtain⟨d,rfl⟩:=Pz qD
     exact Lp q id d i (by omega) (fun k a1 a2 he=>by
      have:=(qt k he).1 ((heff k he).1 a2)
      omega)
   rw[jM]at next ⊢
   refine next (st (i+1)) ⟨i+1,by omega,rfl,fun k he=>?_⟩ (qd.move qs)
   rw[Bj,qt k he];omega
  | some R=>
   rw[hro]at qd;obtain⟨ka,jC,jV⟩:st (i+1)=st i/\R (st i)/\∀ s',R s'->Sg T pr x (qL i) s' (val i) s':=qd
   have je:Ur ops ro st (i::qb) S':=⟨m,hm,hS,fun k he=>by
    rw[heff k he,Bj];constructor
    .exact .inr
    .rintro(rfl | h)
     .rw[he.2]at hro;cases hro
     .exact h⟩
   refine next S' je ((jV S' ?_).move qs)
   have qR:∀ k,Uo ops ro k->(k∈qb/\i<k\/k ∉ qb/\k<i)->R (st (k+1))=R (st k):=fun k ⟨jm,ja⟩ hk=>by
    have hd:=q.d1 i k R hi jm (by simpa using hro) (by simpa using ja);simp only[Fe]at hd;rcases hd with h | h | h
    .have qH:=Sj hdc qf h;rcases hk with⟨_,qv⟩ | ⟨hk,_⟩
     .have:=hb _ i k hi h;omega
     .exact absurd qH hk
    .rcases hk with⟨hk,_⟩ | ⟨hk,qv⟩
     .exact absurd (O2 hdc _ k i h hk) qn
     .have:=hb _ k i (by omega) h;omega
    .exact propext h
   rw[hS];rcases Ac3 m i with qD | qD
   .obtain⟨d,rfl⟩:=Pz qD
    have:=Lp q R d m (by omega) (fun k a1 a2 he=>qR k he (.inr ⟨fun qH=>by
     have:=(heff k he).2 qH
     omega,a2⟩))
    rw[<-this];exact jC
   .obtain⟨d,rfl⟩:=Pz qD
    have:=Lp q R d i (by omega) (fun k a1 a2 he=>by
     have qH:=(heff k he).1 a2;rcases Nat.eq_or_lt_of_le a1 with rfl | h
     .exact absurd qH qn
     .exact qR k he (.inl ⟨qH,h⟩))
    rw[this];exact jC
def Awi(qp:L9 qa ops=true)(h:TG T pr qa ops.length 0 ops e σ [] [] e1 σ1){L:List Nat}(hL:LXt qa ops.length [] L):∃ E',Ev T pr (.ops (Dd ops L) e σ E' σ1)/\∀ m,E'.get m=e1.get m:=by
 obtain⟨qL,st,val,ro,q⟩:=h.sr;exact Alc (Amd qp) q L [] e σ hL R7 (fun i hi=>by cases hi) (fun j hj=>by cases hj) (fun t=>.inr ⟨(fun j hj=>by cases hj),rfl⟩) ⟨0,Ay _,q.s0.symm,fun j _=>by simp⟩
end
def Uz(L:List Nat)(a b:Nat):Prop:=∀ L1 L2,L=L1++b::L2->a∈L1
def A37{L:List Nat}{a b:Nat}(qq:a≠b):Uz L a b\/Uz L b a:=by
 rcases Classical.em (Uz L a b) with h | h
 .exact .inl h
 .refine .inr ?_;unfold Uz at h;obtain⟨L1,h⟩:=Classical.not_forall.1 h;obtain⟨L2,h⟩:=Classical.not_forall.1 h;obtain⟨h1,h2⟩:=Classical.not_imp.1 h;intro M1 M2 h3;rw[h1]at h3;rcases List.append_eq_append_iff.1 h3 with⟨c,rfl,h4⟩ | ⟨c,rfl,h4⟩
  .cases c with
   | nil=>simp at h4;exact absurd h4.1.symm qq
   | cons x c=>simp at h4;simp[h4.1]
  .cases c with
   | nil=>simp at h4;exact absurd h4.1 qq
   | cons x c=>simp at h4;exact absurd (by simp[h4.1]) h2
def DR(T:Nat->Option AF)(pr:Nat->Option (List V->Option V))(qa:List (List Nat))(X:List (Nat × Nat))(ops:List AI)(e:Env)(σ:St)(e1:Env)(σ1:St):Prop:=
 ∀ L,LXt qa ops.length [] L->(∀ p∈X,Uz L p.1 p.2)->∃ E',Ev T pr (.ops (Dd ops L) e σ E' σ1)/\∀ m,E'.get m=e1.get m
section
variable {qa:List (List Nat)} {ops:List AI} {e e1:Env} {σ σ1:St} {X:List (Nat × Nat)}
def Awj(a b:Nat)(qq:a≠b)(h1:DR T pr qa ((a,b)::X) ops e σ e1 σ1)(h2:DR T pr qa ((b,a)::X) ops e σ e1 σ1):DR T pr qa X ops e σ e1 σ1:=fun L hL hX=>by
 rcases A37 (L:=L) qq with h | h
 .exact h1 L hL fun p hp=>by
   rcases Bj.1 hp with rfl | hp
   .exact h
   .exact hX p hp
 .exact h2 L hL fun p hp=>by
   rcases Bj.1 hp with rfl | hp
   .exact h
   .exact hX p hp
def Lh(P:List Nat)(i:Nat):Nat:=P.idxOf i
def Abi(qa qe:List (List Nat))(X:List (Nat × Nat))(n:Nat)(P:List Nat):Bool:=
 P.length==n&&((List.range n).all fun i=>P[Lh P i]?==some i&&decide (Lh P i<n)&&((qe.getD (Lh P i) []).all fun d'=>((qa.getD i []).any fun d=>Lh P d==d')||X.any fun p=>p.2==i&&Lh P p.1==d'))
def Ald{P:List Nat}{ops qi:List AI}(ho:Dd ops P=qi)(qk:qi.length=P.length)(hP:∀ i∈P,i<ops.length):∀ L:List Nat,(∀ i∈L,P[Lh P i]?=some i)->Dd qi (L.map (Lh P))=Dd ops L
 | [],_=>rfl
 | i::L,h=>by
  have ih:=Ald ho qk hP L fun j hj=>h j (Dj _ hj)
  have hi:=h i Dy
  have qV:∀ (P:List Nat) (k:Nat) (i:Nat),(∀ i∈P,i<ops.length)->P[k]?=some i->(Dd ops P)[k]?=ops[i]?:=by
   intro P
   induction P with
   | nil=>intro k i _ h;simp at h
   | cons p P ihP=>
    intro k i qr h;have hp:=qr p Dy
    have:Dd ops (p::P)=ops[p]::Dd ops P:=by
     unfold Dd;rw[J8,A2 hp]
    rw[this]
    cases k with
    | zero=>simp at h;subst h;simp
    | succ k=>simp at h ⊢;exact ihP k i (fun j hj=>qr j (Dj _ hj)) h
  have hk:=qV P (Lh P i) i hP hi;rw[ho]at hk;unfold Dd at ih ⊢;rw[Bb,J8,J8,hk,ih]
def Am8(P:List Nat)(qe:List (List Nat))(qi:List AI)(ho:Dd ops P=qi)(qk:qi.length=ops.length)(hp:Abi qa qe X ops.length P=true)(qp:L9 qe qi=true){e2:Env}(h:TG T pr qe qi.length 0 qi e σ [] [] e2 σ1)(he:∀ m,e2.get m=e1.get m):DR T pr qa X ops e σ e1 σ1:=by
 intro L hL hX;unfold Abi at hp;simp only[Af,beq_iff_eq,Bi,E5,decide_eq_true_eq,Hx,Mk]at hp;obtain⟨jD,qI⟩:=hp
 have jl:∀ i j,i<ops.length->j<ops.length->Lh P i=Lh P j->i=j:=fun i j hi hj h=>by
  have a:=(qI i hi).1.1;have b:=(qI j hj).1.1;rw[h,b]at a;exact(J9 a).symm
 have jv:∀ L qb,LXt qa ops.length qb L->(∀ i∈qb,i<ops.length)->(∀ p∈X,Uz (qb.reverse++L) p.1 p.2)->LXt qe ops.length (qb.map (Lh P)) (L.map (Lh P))/\∀ i∈L,i<ops.length:=by
  intro L
  induction L with
  | nil=>
   intro qb hl _ _
   cases hl with
   | nil hl=>exact⟨.nil (by simpa using hl),by simp⟩
  | cons i L ih=>
   intro qb hl qr hB
   cases hl with
   | cons hi qn hd hl=>
    have qv:∀ j∈i::qb,j<ops.length:=fun j hj=>by
     rcases Bj.1 hj with rfl | hj
     .exact hi
     .exact qr j hj
    obtain⟨g1,g2⟩:=ih (i::qb) hl qv (by simpa using hB)
    refine⟨.cons (qI i hi).1.2 (fun hm=>?_) (fun d' jQ=>?_) (by simpa using g1),fun j hj=>by
     rcases Bj.1 hj with rfl | hj
     .exact hi
     .exact g2 j hj⟩
    .obtain⟨j,hj,jU⟩:=Dq.1 hm;have:=jl j i (qr j hj) hi jU;subst this;exact qn hj
    .rcases(qI i hi).2 d' jQ with⟨d,h1,h2⟩ | ⟨p,h1,h2,h3⟩
     .exact Dq.2 ⟨d,hd d h1,h2⟩
     .have:=hB p h1 qb.reverse L (by rw[h2]);exact Dq.2 ⟨p.1,by simpa using this,h3⟩
 obtain⟨g1,g2⟩:=jv L [] hL (fun i hi=>by cases hi) (by simpa using hX);rw[<-qk]at g1;obtain⟨E',h1,h2⟩:=Awi qp h g1;refine⟨E',?_,fun m=>(h2 m).trans (he m)⟩
 have jc:∀ i∈P,i<ops.length:=by
  have qF:∀ i,i<ops.length->i∈P:=fun i hi=>Hu (qI i hi).1.1
  intro i hi;rcases Br i ops.length with h | h
  .exact h
  .exfalso;have h1:=Yu ops.length (P.erase i) (fun j hj=>(List.mem_erase_of_ne (by omega)).2 (qF j hj));rw[List.length_erase,if_pos hi,jD]at h1;have:=Ace hi;omega
 rw[Ald ho (by rw[qk,jD]) jc L (fun i hi=>(qI i (g2 i hi)).1.1)]at h1;exact h1
def A38{kill:List Nat}{k:List It}{Q:Env->St->Prop}(qp:((qa.length==ops.length)&&(List.range ops.length).all fun j=>(qa.getD j []).all fun d=>decide (d<j))=true)(h:∃ e1 σ1,DR T pr qa [] ops e σ e1 σ1/\W T pr k (e1.del kill) σ1 Q):W T pr (.c (.drw kill qa ops)::k) e σ Q:=by
 obtain⟨e1,σ1,hd,e',σ',h2,q⟩:=h;simp only[Af,beq_iff_eq,Bi,E5,decide_eq_true_eq]at qp
 have qV:∀ t,∃ E',Ev T pr (.ops (Dd ops (Na qa t)) e σ E' σ1)/\∀ m,E'.get m=e1.get m:=fun t=>by
  refine hd _ ?_ (fun p hp=>by cases hp);unfold Na;rw[Ad3];exact Aoq qp.1 (fun j hj d hd=>qp.2 j hj d hd) qa.length t [] (by simp[qp.1]) R7 (fun i hi=>by cases hi)
 exact⟨e',σ',.cDrw (fun t=>(qV t).choose) (fun t=>(qV t).choose_spec.1) (fun t=>(qV t).choose_spec.2) h2,q⟩
end
/-! environments by their slots -/
def Xh(k:Nat)(v:V):Env->Env
 | []=>[(k,v)]
 | (m,u)::r=>if k<m then(k,v)::(m,u)::r else if k=m then(k,v)::r else(m,u)::Xh k v r
def N6:Env->Env
 | []=>[]
 | (k,v)::r=>Xh k v (N6 r)
def Ale(k:Nat)(v:V)(n:Nat):∀ l:Env,(Xh k v l).get n=if k=n then v else l.get n
 | []=>by simp[Xh,Env.get]
 | (m,u)::r=>by
  have ih:=Ale k v n r;unfold Xh
  split
  .simp[Env.get]
  .split
   .rename_i h;subst h;simp only[Env.get]
    split<;>rfl
   .simp only[Env.get,ih]
    split
    .rename_i h1 h2 h3;subst h3;rw[if_neg h2]
    .rfl
def Adv(n:Nat):∀ e:Env,(N6 e).get n=e.get n
 | []=>rfl
 | (k,v)::r=>by
  rw[N6,Ale,Adv n r];rfl
def Awk{e e':Env}(h:N6 e=N6 e')(n:Nat):e.get n=e'.get n:=by rw[<-Adv n e,h,Adv]
def DE(E:Env)(S:St)(e:Env)(σ:St):Prop:=e=E/\σ=S
def DS(E:Env)(S:St)(e:Env)(σ:St):Prop:=N6 e=N6 E/\σ=S
def A7q{E:Env}{S:St}:DE E S E S:=⟨rfl,rfl⟩
def A7r{E e:Env}{S σ:St}(h:N6 e=N6 E)(h':σ=S):DS E S e σ:=⟨h,h'⟩
def A39{qa:List (List Nat)}{ops:List AI}{kill:List Nat}{k:List It}{e:Env}{σ:St}{Q:Env->St->Prop}(a b:Nat)(P1 P2:List Nat)(d1 d2:List (List Nat)){E:Env}{S:St}
  (hp:((qa.length==ops.length)&&((List.range ops.length).all fun j=>(qa.getD j []).all fun d=>decide (d<j))&&(a==b)==false&&Abi qa d1 [(a,b)] ops.length P1&&Abi qa d2 [(b,a)] ops.length P2&&L9 d1 (Dd ops P1)&&L9 d2 (Dd ops P2)&&(Dd ops P1).length==ops.length&&(Dd ops P2).length==ops.length)=true)
  (h1:wg T pr d1 (Dd ops P1).length [] [] (DE E S) 0 (Dd ops P1) e σ [] [])
  (h2:wg T pr d2 (Dd ops P2).length [] [] (DS E S) 0 (Dd ops P2) e σ [] [])
  (h:WE T pr (E.del kill) k S Q):W T pr (.c (.drw kill qa ops)::k) e σ Q:=by
 simp only[Af,beq_iff_eq]at hp;obtain⟨⟨⟨⟨⟨⟨⟨⟨jt,ju⟩,qq⟩,p1⟩,p2⟩,s1⟩,s2⟩,l1⟩,l2⟩:=hp
 have jw:∀ {e1:Env} {σ1:St} {P:Env->St->Prop},W T pr [] (e1.del []) σ1 P->P e1 σ1:=fun {e1 σ1 P} h=>by
  have hd:∀ e:Env,e.del []=e:=fun e=>by
   induction e with
   | nil=>rfl
   | cons p r ih=>obtain⟨m,v⟩:=p;simp only[Env.del,List.elem_nil,Fb,if_false,ih]
  rw[hd,Apl]at h;exact h
 obtain⟨e1,σ1,t1,g1⟩:=Rd _ _ _ _ _ _ h1;obtain⟨rfl,rfl⟩:=jw g1;obtain⟨e2,σ2,t2,g3⟩:=Rd _ _ _ _ _ _ h2;obtain⟨g4,rfl⟩:=jw g3;refine A38 ?_ ⟨_,_,Awj a b (by simpa using qq) (Am8 P1 d1 _ rfl l1 p1 s1 t1 fun _=>rfl) (Am8 P2 d2 _ rfl l2 p2 s2 t2 (Awk g4)),h⟩;simp only[Af,beq_iff_eq];exact⟨jt,ju⟩
def GS(σ:St)(m e:Nat)(u:V)(xs:List (List V)):Prop:=
 ((∀ r∈xs,r.length=m)/\∀ r∈xs,r.all V.rowB=true)/\((u=.nils/\xs=[])\/∃ i g r q,u=.sl i g 0 xs.length m true/\σ[i]?=some (.row (xs.flatten++r) e g 0)/\r.length=q*m/\r.all V.rowB=true)
def W4{σ:St}{m e:Nat}:GS σ m e .nils []:=⟨⟨by simp,by simp⟩,.inl ⟨rfl,rfl⟩⟩
def H2{σ:St}{m e:Nat}{u:V}{xs:List (List V)}(h:GS σ m e u xs):u.cellB=true:=by
 rcases h.2 with⟨rfl,-⟩ | ⟨i,g,r,q,rfl,-⟩<;>rfl
def W5{σ:St}{m e:Nat}{u:V}{xs:List (List V)}(h:GS σ m e u xs):Og u=some (iV (xs.length:Int)):=by
 rcases h.2 with⟨rfl,rfl⟩ | ⟨i,g,r,q,rfl,-⟩<;>rfl
def Cp{σ:St}{m e:Nat}{u:V}{xs:List (List V)}(h:GS σ m e u xs):∀ i∈u.refs,i<σ.length:=by
 rcases h.2 with⟨rfl,rfl⟩ | ⟨i,g,r,q,rfl,ho,-⟩
 .intro i hi;simp[V.refs]at hi
 .intro j hj;simp[V.refs]at hj;subst hj;exact(Ap.1 ho).1
def Gm{σ τ:St}{m e:Nat}{u:V}{xs:List (List V)}(h:GS σ m e u xs)(hk:∀ i∈u.refs,τ[i]?=σ[i]?):GS τ m e u xs:=by
 refine⟨h.1,?_⟩;rcases h.2 with h2 | ⟨i,g,r,q,rfl,ho,h2⟩
 .exact .inl h2
 .exact .inr ⟨i,g,r,q,rfl,by rw[hk i (by simp[V.refs])];exact ho,h2⟩
def Mp{cs:List V}(h:cs.all V.rowB=true):Al cs=[]:=Jk h
def Tf{σ:St}{m e bytes:Nat}{u:V}{xs:List (List V)}{row:List V}(h:GS σ m e u xs)(hm:0<m)(qw:row.length=m)(qc:row.all V.rowB=true)(hb:(xs.length+1)*bytes<=140737488355328):
  ∃ u' σ',D5 bytes (m,e) u (.lst 1 [row]) σ=some (u',σ')/\GS σ' m e u' (xs++[row])/\σ.length<=σ'.length/\(∀ j,j<σ.length->j ∉ u.refs->σ'[j]?=σ[j]?)/\(∀ j∈u'.refs,j∈u.refs\/σ.length<=j)/\(Cl σ->Cl σ'):=by
 obtain⟨⟨hl,hr⟩,h⟩:=h;have ql:([row].all fun r=>r.length==m)=true:=by simp[qw]
 have jn:∀ r∈xs++[row],r.length=m:=fun r hx=>by
  rcases Cr.1 hx with hx | hx
  .exact hl r hx
  .rw[E4.1 hx];exact qw
 have jp:∀ r∈xs++[row],r.all V.rowB=true:=fun r hx=>by
  rcases Cr.1 hx with hx | hx
  .exact hr r hx
  .rw[E4.1 hx];exact qc
 unfold D5;simp only[Fr,C4];unfold Je;rw[if_pos ⟨ql,hm⟩];rcases h with⟨rfl,rfl⟩ | ⟨i,g,r,q,rfl,ho,hq,qA⟩
 .simp only;rw[if_pos (by simpa using hb),if_neg (by simp)];refine⟨_,_,rfl,⟨⟨jn,jp⟩,.inr ⟨σ.length,0,[],0,rfl,by simp,by simp,rfl⟩⟩,by simp,fun j hj _=>Cg hj,fun j hj=>?_,fun hc=>Qy hc ?_⟩
  .simp[V.refs]at hj;exact .inr (by omega)
  .simp[Ob.refs,Mp qc]
 .have hi:i<σ.length:=(Ap.1 ho).1;have hf:=K0 hl;have jg:(xs.flatten++r).length=xs.length*m+q*m:=by rw[Aj,hf,hq]
  simp only;rw[if_pos ⟨hb,trivial⟩];simp only[ho,if_true];rw[if_neg (by simp),if_pos ⟨trivial,trivial,trivial,Ay _⟩];have qE:(xs.length+[row].length)*m=xs.length*m+m:=by rw[Ht,Ep]
  by_cases h0:q=0
  .subst h0;have jE:r=[]:=X2.1 (by omega);subst jE;rw[if_neg (by rw[jg,qE];omega),if_pos (by rw[jg];omega)];refine⟨_,_,rfl,⟨⟨jn,jp⟩,.inr ⟨i,g+1,[],0,by rw[Aj],?_,by simp,rfl⟩⟩,by simp,fun j hj hn=>?_,fun j hj=>.inl hj,fun hc=>G5 hc ?_⟩
   .rw[Cc hi];simp
   .have:i≠j:=fun h=>hn (by subst h;simp[V.refs])
    rw[Bg this]
   .simp only[Ob.refs,Cm];rw[Jm,Mp (Lq hr)];simp[Mp qc]
  .have ke:m<=q*m:=Nat.le_mul_of_pos_left m (by omega);rw[if_pos (by rw[jg,qE];omega),qE];have e1:(xs.flatten++r).take (xs.length*m)=xs.flatten:=by rw[<-hf,U8]
   have e2:(xs.flatten++r).drop (xs.length*m+m)=r.drop m:=by rw[<-hf,List.drop_append,F4 (by omega),Fd,Nat.add_sub_cancel_left]
   rw[e1,e2];have jF:(r.drop m).all V.rowB=true:=Bi.2 fun c hc=>Bi.1 qA c (List.mem_of_mem_drop hc)
   refine⟨_,_,rfl,⟨⟨jn,jp⟩,.inr ⟨i,g,r.drop m,q - 1,by rw[Aj],?_,?_,jF⟩⟩,by simp,fun j hj hn=>?_,fun j hj=>.inl hj,fun hc=>G5 hc ?_⟩
   .rw[Cc hi];simp
   .rw[Dn,hq,Nat.sub_mul,Nat.one_mul]
   .have:i≠j:=fun h=>hn (by subst h;simp[V.refs])
    rw[Bg this]
   .simp only[Ob.refs];rw[Jm,Jm,Mp (Lq hr),Mp jF];simp[Mp qc]
def A0h(n d:Nat):D2 (some (iV (n:Int))) d=some n:=by
 unfold D2;simp
def Aor{σ:St}{m e:Nat}{u:V}{xs:List (List V)}{row:List V}(h:GS σ m e u (xs++[row])):∃ u',N8 m u none (some (iV (xs.length:Int))) none=some u'/\GS σ m e u' xs/\u'.refs=u.refs:=by
 obtain⟨⟨hl,hr⟩,h⟩:=h;rcases h with⟨-,h⟩ | ⟨i,g,r,q,rfl,ho,hq,qA⟩
 .simp at h
 .refine⟨.sl i g 0 xs.length m true,?_,⟨⟨fun r hx=>hl r (P5 _ hx),fun r hx=>hr r (P5 _ hx)⟩,.inr ⟨i,g,row++r,q+1,rfl,?_,?_,?_⟩⟩,rfl⟩
  .simp only[N8,A0h,D2];simp
  .rw[ho];simp
  .rw[Aj,hq,hl row (by simp),Ep,Yn]
  .rw[List.all_append,hr row (by simp),qA];rfl
def A4a{σ:St}{m e:Nat}{u:V}{xs:List (List V)}{row:List V}{i:Nat}(h:GS σ m e u xs)(hi:xs[i]?=some row):∃ j g cs,u=.sl j g 0 xs.length m true/\σ[j]?=some (.row cs e g 0)/\i*m+m<=cs.length/\(cs.drop (i*m)).take m=row:=by
 obtain⟨⟨hl,hr⟩,h⟩:=h;have qY:=(Ap.1 hi).1;rcases h with⟨-,rfl⟩ | ⟨j,g,r,q,rfl,ho,hq,qA⟩
 .simp at hi
 .have hf:=K0 hl;have kb:i*m+m<=xs.length*m:=by rw[<-Ep];exact Fo m qY
  refine⟨j,g,_,rfl,ho,by rw[Aj,hf];omega,?_⟩
  have hs:xs=xs.take i++row::xs.drop (i+1):=by
   have h1:=Fv qY;rw[(Ap.1 hi).2]at h1;rw[<-h1,J7]
  have ht:(xs.take i).flatten.length=i*m:=by
   rw[K0 fun r hr=>hl r (List.mem_of_mem_take hr),Hw,Nat.min_eq_left (by omega)]
  have qw:=hl row (Hu hi)
  conv=>lhs;rw[hs]
  rw[List.flatten_append,Ey,D9,D9,<-ht,List.drop_left,<-qw,U8]
def Agh{σ:St}{m e:Nat}{u:V}{xs:List (List V)}(h:GS σ m e u xs)(hm:0<m):∃ z,OC σ u (SL z 0 xs):=by
 obtain⟨⟨hl,hr⟩,h⟩:=h;rcases h with⟨rfl,rfl⟩ | ⟨i,g,r,q,rfl,ho,hq,qA⟩
 .exact⟨true,Hj rfl⟩
 .refine⟨false,fun js hj d=>?_⟩
  have hi:js.elem i=true:=by
   have:=hj i (by simp[V.refs]);simpa using this
  have hf:=K0 hl;unfold Ff;rw[if_neg (by simp[V.rowB])];simp only[hi,if_true,ho];rw[if_pos ⟨trivial,hm,by rw[Aj,hf];omega⟩,Ln,<-hf,U8,Qx fun c hc=>?_]
  .simp only[Fp,Yv hl];rfl
  .obtain⟨r,jW,jO⟩:=List.mem_flatten.1 hc;exact Ql (Bi.1 (hr r jW) c jO)
def A4b(a b c cells:List V)(h:c.length=cells.length):M3 (a++(c++b)) a.length cells=some (a++(cells++b)):=by
 unfold M3;rw[if_pos (by simp only[Aj];omega),U8,<-D9 a c b,List.drop_append];rw[F4 (by simp only[Aj];omega),Fd,Aj,<-h];simp
def A4c{σ:St}{m e:Nat}{u:V}{xs:List (List V)}{r0 row:List V}(h:GS σ m e u (xs++[r0]))(qw:row.length=m)(qc:row.all V.rowB=true):∃ j g cs',u=.sl j g 0 (xs.length+1) m true/\j<σ.length/\(∀ τ:St,τ[j]?=σ[j]?->Nw τ m (.ptr j g (0+xs.length*m)) (.agg row)=some (τ.set j (.row cs' e g 0))/\(j<τ.length->GS (τ.set j (.row cs' e g 0)) m e u (xs++[row])))/\Al cs'=[]:=by
 obtain⟨⟨hl,hr⟩,h⟩:=h;rcases h with⟨-,h⟩ | ⟨j,g,r,q,rfl,ho,hq,qA⟩
 .simp at h
 .have hf:=K0 fun r hx=>hl r (P5 _ hx)
  have jE:=hl r0 (by simp);have hx:xs.flatten.all V.rowB=true:=Lq fun r hx=>hr r (P5 _ hx)
  have qN:row.all V.cellB=true:=An6 qc;have jP:(V.agg row).cells=row:=rfl;refine⟨j,g,xs.flatten++(row++r),by simp,(Ap.1 ho).1,fun τ hk=>⟨?_,fun hj=>⟨⟨fun r hx=>?_,fun r hx=>?_⟩,.inr ⟨j,g,r,q,by simp,?_,hq,qA⟩⟩⟩,?_⟩
  .simp only[Nw,hk,ho,jP];rw[if_pos ⟨trivial,Ay _,qw,qN⟩,Fe,<-hf];have:(xs++[r0]).flatten++r=xs.flatten++(r0++r):=by simp
   rw[this,A4b _ _ _ _ (by omega)];rfl
  .rcases Cr.1 hx with hx | hx
   .exact hl r (P5 _ hx)
   .rw[E4.1 hx];exact qw
  .rcases Cr.1 hx with hx | hx
   .exact hr r (P5 _ hx)
   .rw[E4.1 hx];exact qc
  .rw[Cc hj];simp
  .rw[Jm,Jm,Mp hx,Mp qc,Mp qA];rfl
/-! what a struct and its lists may change -/
def fp(σ:St)(w:Nat):List Nat:=w::match σ[w]? with
 | some ob=>ob.refs
 | none=>[]
def Afl{σ:St}{w:Nat}{cs:List V}{t g z:Nat}(h:σ[w]?=some (.row cs t g z)):fp σ w=w::Al cs:=by
 unfold fp;rw[h];rfl
def FW(w:Nat)(σ τ:St):Prop:=σ.length<=τ.length/\(∀ j,j<σ.length->j ∉ fp σ w->τ[j]?=σ[j]?)/\(∀ j∈fp τ w,j∈fp σ w\/σ.length<=j)
def Aaa(w:Nat)(σ:St):FW w σ σ:=⟨Ah _,fun _ _ _=>rfl,fun _ h=>.inl h⟩
def E0{w:Nat}{σ τ υ:St}(h:FW w σ τ)(h':FW w τ υ):FW w σ υ:=by
 refine⟨Cv h.1 h'.1,fun j hj hn=>?_,fun j hj=>?_⟩
 .rw[h'.2.1 j (by have:=h.1;omega) fun hm=>?_,h.2.1 j hj hn];rcases h.2.2 j hm with h2 | h2
  .exact hn h2
  .omega
 .rcases h'.2.2 j hj with h2 | h2
  .exact h.2.2 j h2
  .exact .inr (by have:=h.1;omega)
def Aab{w:Nat}{σ:St}(l:St)(hw:w<σ.length):FW w σ (σ++l):=by
 refine⟨by simp,fun j hj _=>Cg hj,fun j hj=>?_⟩;unfold fp at hj ⊢;rw[Cg hw]at hj;exact .inl hj
def Aos{w:Nat}{σ τ:St}{j:Nat}{x:Ob}(h:FW w σ τ)(hj:σ.length<=j)(hw:w<σ.length):FW w σ (τ.set j x):=by
 refine⟨by simpa using h.1,fun i hi hn=>?_,fun i hi=>?_⟩
 .rw[Bg (by omega)];exact h.2.1 i hi hn
 .unfold fp at hi;rw[Bg (by omega)]at hi;exact h.2.2 i hi
def Afm{w:Nat}{σ τ:St}{cs:List V}{t g z:Nat}(h:FW w σ τ)(hw:w<σ.length)(hc:∀ j∈Al cs,j∈fp σ w\/σ.length<=j):FW w σ (τ.set w (.row cs t g z)):=by
 have hm:w∈fp σ w:=by unfold fp;exact Dy
 refine⟨by simpa using h.1,fun i hi hn=>?_,fun i hi=>?_⟩
 .rw[Bg (fun e=>hn (by rw[<-e];exact hm))];exact h.2.1 i hi hn
 .rw[Afl (Cc (by have:=h.1;omega))]at hi;rcases Bj.1 hi with rfl | hi
  .exact .inl hm
  .exact hc i hi
def Aot{w:Nat}{σ τ υ:St}{B:List Nat}(h:FW w σ τ)(hw:w<σ.length)(hl:τ.length<=υ.length)(hB:∀ j∈B,j∈fp σ w\/σ.length<=j)(hk:∀ j,j<τ.length->j ∉ B->υ[j]?=τ[j]?)(jY:w ∉ B):FW w σ υ:=by
 refine⟨Cv h.1 hl,fun i hi hn=>?_,fun i hi=>?_⟩
 .rw[hk i (by have:=h.1;omega) fun hm=>?_,h.2.1 i hi hn];rcases hB i hm with h2 | h2
  .exact hn h2
  .omega
 .unfold fp at hi;rw[hk w (by have:=h.1;omega) jY]at hi;exact h.2.2 i hi
