/- Walks: which programs are shaped. -/
import Derived.Test.YtphikjgngompaabGreatDoorGc
import Derived.Test.YtphikjgngompaabGreatDoorPa
set_option linter.all false
namespace Go.Proofs.YtphikjgngompaabGreatDoor.KM
open Go
def F0{a b:AC}{k:List It}{e:Env}{σ:St}{Q:Env->St->Prop}(P:Env->St->Prop)(h1:∀ k',(∀ e σ,P e σ->W TT PT k' e σ Q)->W TT PT (.c a::k') e σ Q)(h2:∀ e σ,P e σ->W TT PT (.c b::k) e σ Q):W TT PT (.c (.seq a b)::k) e σ Q:=by
 rw[Anh];exact h1 _ h2
def A3c(op:Int):Fn TT PT 206 [iV op] (iV (Y9 op)):=by
 refine Bg T206 rfl ?_;unfold Y9;by_cases h1:op=1
 .subst h1;simp only[go_sem,Int.reduceBEq];exact Ah rfl rfl
 have e1:(op==1)=false:=by simp[h1]
 by_cases h2:op=2
 .subst h2;simp only[go_sem,e1,Int.reduceBEq];exact Ah rfl rfl
 have e2:(op==2)=false:=by simp[h2]
 rw[if_neg AA];by_cases h3:3<=op/\op<=5
 .have g3:((3:Int)<=op)=True:=eq_true h3.1;have g5:(op<=5)=True:=eq_true h3.2;rw[if_pos h3];simp only[go_sem,e1,e2,g3,g5,ge_iff_le];exact Ah rfl rfl
 rw[if_neg h3];by_cases h6:6<=op/\op<=18
 .have g3:((3:Int)<=op)=True:=eq_true AA;have g5:(op<=5)=False:=eq_false AA;have g6:((6:Int)<=op)=True:=eq_true h6.1;have g7:(op<=18)=True:=eq_true h6.2;rw[if_pos h6];simp only[go_sem,e1,e2,g3,g5,g6,g7,ge_iff_le];exact Ah rfl rfl
 rw[if_neg h6];by_cases hl:3<=op
 .have g3:((3:Int)<=op)=True:=eq_true AA;have g5:(op<=5)=False:=eq_false AA;have g6:((6:Int)<=op)=True:=eq_true AA;have g7:(op<=18)=False:=eq_false AA;simp only[go_sem,e1,e2,g3,g5,g6,g7,ge_iff_le];exact Ah rfl rfl
 .have g3:((3:Int)<=op)=False:=eq_false AA;have g6:((6:Int)<=op)=False:=eq_false AA;simp only[go_sem,e1,e2,g3,g6,ge_iff_le];exact Ah rfl rfl
def A95(x:Xp)(hl:x.l.length<=1000000000):Fn TT PT 181 [.agg x.row] (.bool (Agb x)):=by
 refine Bg T181 rfl ?_;rw[Bi];unfold Agb;have qa:(x.l.map Xp.row).length=x.l.length:=Ar ..;cases h1:(x.op==0)
 .simp only[go_sem,h1];exact Ah rfl rfl
 cases h2:(x.n==0)
 .simp only[go_sem,h1,h2];exact Ah rfl rfl
 cases h3:(x.nm==[])
 .simp only[go_sem,h1,h2,h3];exact Ah rfl rfl
 have e:((x.l.length:Int)==0)=x.l.isEmpty:=by
  cases x.l with
  | nil=>rfl
  | cons a b=>grind
 simp only[go_sem,h1,h2,h3,qa,e];exact Ah rfl rfl
set_option maxHeartbeats 1000000 in
def A96(x:Xp)(hl:x.l.length<=1000000000)(ih:∀ y∈x.l,Fn TT PT 180 [.agg y.row] (.bool (Hv y))):Fn TT PT 180 [.agg x.row] (.bool (Hv x)):=by
 obtain⟨op,n,nm,z,t,l⟩:=x;have hr:=Bi ⟨op,n,nm,z,t,l⟩;have hR:=Bep ⟨op,n,nm,z,t,l⟩;generalize Hv ⟨op,n,nm,z,t,l⟩=R at hR ⊢;simp only at hr hl ih hR;rw[hr];clear hr;unfold shH at hR;have qa:(l.map Xp.row).length=l.length:=Ar ..;refine Bg T180 rfl ?_;refine F0 (fun e σ=>e=[(1,.ptr 0 0 0)]/\σ=[.row [iV op,iV n,.str nm,SL z t (l.map Xp.row)] 96 0 0]) (fun k' hk=>?_) ?_
 .simp only[go_sem];exact hk _ _ ⟨rfl,rfl⟩
 rintro e σ ⟨rfl,rfl⟩;refine F0 (fun e σ=>e=[(1,.ptr 0 0 0),(3,.bool (op==2||op==3))]/\σ=[.row [iV op,iV n,.str nm,SL z t (l.map Xp.row)] 96 0 0]) (fun k' hk=>?_) ?_
 .cases h2:(op==2)
  .simp only[go_sem,h2];exact hk _ _ ⟨by grind,rfl⟩
  .simp only[go_sem,h2];exact hk _ _ ⟨by grind,rfl⟩
 rintro e σ ⟨rfl,rfl⟩;generalize(op==2||op==3)=nb at hR ⊢;have ho:=A3c op;have qf:=Vf nm;refine F0 (fun e σ=>(e=[(1,.ptr 0 0 0)]/\σ=[.row [iV op,iV n,.str nm,SL z t (l.map Xp.row)] 96 0 0])/\R=l.all Hv) (fun k' hk=>?_) ?_
 .cases h1:(Y9 op != (l.length:Int));rotate_left
  .have b1:(Y9 op==(l.length:Int))=false:=by simpa using h1
   rw[b1]at hR;subst hR;simp only[go_sem];refine Af AD ?_;simp only[go_sem];refine Bf ho rfl ?_;simp only[go_sem,qa,h1];exact Ah rfl rfl
  have b1:(Y9 op==(l.length:Int))=true:=by simpa using h1
  rw[b1]at hR
  have lt:∀ {a:Int},decide (0<=a)=!decide (a<0):=fun {a}=>by
   grind
  cases nb<;>cases h2:(nm==[])
  .rw[h2]at hR;subst hR;simp only[go_sem];refine Af AD ?_;simp only[go_sem];refine Bf ho rfl ?_;simp only[go_sem,qa,h1,h2,A1,Ay,beq_self_eq_true,Lf,Lg];exact Ah rfl rfl
  .rw[h2]at hR;cases h4:decide (n<0);rotate_left
   .rw[lt,h4]at hR;simp only[Ay,W2,Zj]at hR;subst hR;simp only[go_sem];refine Af AD ?_;simp only[go_sem];refine Bf ho rfl ?_;simp only[go_sem,qa,h1,h2,A1,Ay,beq_self_eq_true,Lf,Lg,h4];exact Ah rfl rfl
   rw[lt,h4]at hR;cases h5:(op==1);rotate_left
   .rw[h5]at hR;have qh:(op != 1)=false:=by simp[bne,h5]
    simp only[go_sem];refine Af AD ?_;simp only[go_sem];refine Bf ho rfl ?_;simp only[go_sem,qa,h1,h2,A1,Ay,beq_self_eq_true,Lf,Lg,h4,qh];exact hk _ _ ⟨⟨rfl,rfl⟩,by grind⟩
   rw[h5]at hR;have qh:(op != 1)=true:=by simp[bne,h5]
   cases h6:(n==0)
   .rw[h6]at hR;have qo:(n != 0)=true:=by simp[bne,h6]
    simp only[A1,Ay,Zj,Bool.or_false,W2]at hR;subst hR;simp only[go_sem];refine Af AD ?_;simp only[go_sem];refine Bf ho rfl ?_;simp only[go_sem,qa,h1,h2,A1,Ay,beq_self_eq_true,Lf,Lg,h4,qh,qo];exact Ah rfl rfl
   rw[h6]at hR;have qo:(n != 0)=false:=by simp[bne,h6]
   simp only[go_sem];refine Af AD ?_;simp only[go_sem];refine Bf ho rfl ?_;simp only[go_sem,qa,h1,h2,A1,Ay,beq_self_eq_true,Lf,Lg,h4,qh,qo];exact hk _ _ ⟨⟨rfl,rfl⟩,by grind⟩
  .rw[h2]at hR;cases h3:Bm nm
   .rw[h3]at hR qf;subst hR;simp only[go_sem];refine Af AD ?_;simp only[go_sem];refine Bf ho rfl ?_;simp only[go_sem,qa,h1,h2,A1,Ay,beq_self_eq_true,Lf,Lg];refine Bf qf rfl ?_;simp only[go_sem,qa,h1,h2,A1,Ay,beq_self_eq_true,Lf,Lg];exact Ah rfl rfl
   rw[h3]at hR qf;cases h4:decide (n<0);rotate_left
   .rw[lt,h4]at hR;simp only[Ay,W2,Zj]at hR;subst hR;simp only[go_sem];refine Af AD ?_;simp only[go_sem];refine Bf ho rfl ?_;simp only[go_sem,qa,h1,h2,A1,Ay,beq_self_eq_true,Lf,Lg];refine Bf qf rfl ?_;simp only[go_sem,qa,h1,h2,A1,Ay,beq_self_eq_true,Lf,Lg,h4];exact Ah rfl rfl
   rw[lt,h4]at hR;cases h5:(op==1);rotate_left
   .rw[h5]at hR;have qh:(op != 1)=false:=by simp[bne,h5]
    simp only[go_sem];refine Af AD ?_;simp only[go_sem];refine Bf ho rfl ?_;simp only[go_sem,qa,h1,h2,A1,Ay,beq_self_eq_true,Lf,Lg];refine Bf qf rfl ?_;simp only[go_sem,qa,h1,h2,A1,Ay,beq_self_eq_true,Lf,Lg,h4,qh];exact hk _ _ ⟨⟨rfl,rfl⟩,by grind⟩
   rw[h5]at hR;have qh:(op != 1)=true:=by simp[bne,h5]
   cases h6:(n==0)
   .rw[h6]at hR;have qo:(n != 0)=true:=by simp[bne,h6]
    simp only[A1,Ay,Zj,Bool.or_false,W2]at hR;subst hR;simp only[go_sem];refine Af AD ?_;simp only[go_sem];refine Bf ho rfl ?_;simp only[go_sem,qa,h1,h2,A1,Ay,beq_self_eq_true,Lf,Lg];refine Bf qf rfl ?_;simp only[go_sem,qa,h1,h2,A1,Ay,beq_self_eq_true,Lf,Lg,h4,qh,qo];exact Ah rfl rfl
   rw[h6]at hR;have qo:(n != 0)=false:=by simp[bne,h6]
   simp only[go_sem];refine Af AD ?_;simp only[go_sem];refine Bf ho rfl ?_;simp only[go_sem,qa,h1,h2,A1,Ay,beq_self_eq_true,Lf,Lg];refine Bf qf rfl ?_;simp only[go_sem,qa,h1,h2,A1,Ay,beq_self_eq_true,Lf,Lg,h4,qh,qo];exact hk _ _ ⟨⟨rfl,rfl⟩,by grind⟩
  .rw[h2]at hR;subst hR;simp only[go_sem];refine Af AD ?_;simp only[go_sem];refine Bf ho rfl ?_;simp only[go_sem,qa,h1,h2,A1,Ay,beq_self_eq_true,Lf,Lg];exact Ah rfl rfl
 rintro e σ ⟨⟨rfl,rfl⟩,hR⟩;simp only[go_sem];refine Bk (α:=Nat) (fun i=>l.length - i) (fun i=>[(1,.ptr 0 0 0),(4,iV (i:Int))]) (fun _=>[.row [iV op,iV n,.str nm,SL z t (l.map Xp.row)] 96 0 0]) (fun i=>i<=l.length/\l.all Hv=(l.drop i).all Hv) ?_ 0 ⟨Ax _,rfl⟩;rintro i ⟨hi,qc⟩ jh;refine Bd Bj8 ?_;by_cases hc:i<l.length
 .have f1:((i:Int)<(l.length:Int))=True:=eq_true AA;have qA:=A2 (show i<9223372036854775807 by omega);obtain⟨a,ha⟩:∃ a,l[i]?=some a:=⟨_,B9 hc⟩;have qp:=Bi a;have qs:=Dw a;have hf:=ih a (F7 ha);have qk:(l.map Xp.row)[i]?=some (xR a):=by rw[Au,ha,Ir,qp]
  have qz:l.drop i=a::l.drop (i+1):=by rw[Io hc,(Ao.1 ha).2]
  rw[qz,B5]at qc;rw[qp]at hf qs;cases hab:Hv a
  .rw[hab]at hf qc;rw[qc]at hR;subst hR;simp only[go_sem,qa,f1,qk];refine Ab hf (by grind) ?_;simp only[go_sem];exact Ah rfl rfl
  .rw[hab]at hf qc;simp only[go_sem,qa,f1,qk];refine Ab hf (by grind) ?_;simp only[go_sem,qA];exact Av (jh (i+1) AA ⟨hc,by grind⟩) rfl
 .have f1:((i:Int)<(l.length:Int))=False:=eq_false AA;rw[qc,D1 AA]at hR;subst hR;simp only[go_sem,qa,f1];exact Ah rfl rfl
def Age:∀ (N:Nat) (x:Xp),C3 x.row<=N->N<=1000000000->Fn TT PT 180 [.agg x.row] (.bool (Hv x))
 | 0,x,h,_=>by rw[G8]at h;omega
 | N+1,x,h,hN=>by
  have h1:=G8 x;have h2:=L9 (f:=Xp.row) (fun x=>by grind[G8]) x.l;refine A96 x AA fun y hy=>Age N y ?_ AA
  grind[J9]
set_option maxHeartbeats 2000000 in
def A97(s:Sp)(hi:∀ x∈s.idx,Fn TT PT 180 [.agg x.row] (.bool (Hv x)))(he:Fn TT PT 180 [.agg s.ex.row] (.bool (Hv s.ex)))(qq:s.ex.l.length<=1000000000)(qR:s.idx.length<=1000000000)(ql:s.body.length<=1000000000)(qT:s.els.length<=1000000000)
  (hb:Fn TT PT 113 [SL s.bz s.bt (s.body.map Sp.row)] (.bool (Ly s.body))) (hs:Fn TT PT 113 [SL s.ez s.et (s.els.map Sp.row)] (.bool (Ly s.els))):Fn TT PT 148 [.agg s.row] (.bool (Pv s)):=by
 obtain⟨op,line,nm,arg,iz,it,idx,ex,bz,bt,body,ez,et,els⟩:=s;have hr:=Sz ⟨op,line,nm,arg,iz,it,idx,ex,bz,bt,body,ez,et,els⟩;have hR:=Beq ⟨op,line,nm,arg,iz,it,idx,ex,bz,bt,body,ez,et,els⟩;generalize Pv ⟨op,line,nm,arg,iz,it,idx,ex,bz,bt,body,ez,et,els⟩=R at hR ⊢;have qj:=A95 ex qq;simp only at hr hR hi he hb hs qR ql qT qq;rw[hr];clear hr;have qu:=Bi ex;rw[qu]at he qj ⊢;unfold Aow at hR;simp only at hR;generalize ex.op=xo at he qj ⊢;generalize ex.n=xn at he qj ⊢;generalize ex.nm=xm at he qj ⊢;generalize ex.z=xz at he qj ⊢;generalize ex.t=xt at he qj ⊢;generalize ex.l=xl at he qj qq ⊢;clear qu;simp only[Bq,Ba];obtain⟨A3,h3⟩:∃ b,b=(if F8 op then nm==[] else Bm nm):=⟨_,rfl⟩;obtain⟨A4,h4⟩:∃ b,b=(if op=15 then Bm arg else arg==[]):=⟨_,rfl⟩;obtain⟨A5,h5⟩:∃ b,b=decide (idx.length<=1):=⟨_,rfl⟩;obtain⟨A6,h6⟩:∃ b,b=(op==1||idx.isEmpty):=⟨_,rfl⟩;obtain⟨A7,h7⟩:∃ b,b=idx.all Hv:=⟨_,rfl⟩;obtain⟨A8,h8⟩:∃ b,b=(if Ek op then Hv ex else Agb ex):=⟨_,rfl⟩;obtain⟨A9,h9⟩:∃ b,b=(Bv op||body.isEmpty):=⟨_,rfl⟩;obtain⟨A10,qG⟩:∃ b,b=(op==2||els.isEmpty):=⟨_,rfl⟩;rw[<-h3,<-h4,<-h5,<-h6,<-h7,<-h8,<-h9,<-qG]at hR;obtain⟨B1,qP⟩:∃ b,b=Ly body:=⟨_,rfl⟩;obtain⟨B2,qQ⟩:∃ b,b=Ly els:=⟨_,rfl⟩;rw[<-qP]at hR hb;rw[<-qQ]at hR hs;have qd:(idx.map Xp.row).length=idx.length:=Ar ..;have qi:(body.map Sp.row).length=body.length:=Ar ..;have qn:(els.map Sp.row).length=els.length:=Ar ..;have qf:=Vf nm;have qp:=Vf arg;refine Bg T148 rfl ?_;refine F0 (fun e σ=>e=[(1,.ptr 0 0 0)]/\σ=[.row [iV op,iV line,.str nm,.str arg,SL iz it (idx.map Xp.row),iV xo,iV xn,.str xm,SL xz xt (xl.map Xp.row),SL bz bt (body.map Sp.row),SL ez et (els.map Sp.row)] 98 0 0]) (fun k' hk=>?_) ?_
 .simp only[go_sem];exact hk _ _ ⟨rfl,rfl⟩
 rintro e σ ⟨rfl,rfl⟩;refine F0 (fun e σ=>(e=[(1,.ptr 0 0 0)]/\σ=[.row [iV op,iV line,.str nm,.str arg,SL iz it (idx.map Xp.row),iV xo,iV xn,.str xm,SL xz xt (xl.map Xp.row),SL bz bt (body.map Sp.row),SL ez et (els.map Sp.row)] 98 0 0])/\(1<=op/\op<=15)/\R=((A3&&(A4&&(A5&&(A6&&(A7&&(A8&&(A9&&(A10))))))))&&(B1&&B2))) (fun k' hk=>?_) ?_
 .by_cases g1:op<1
  .rw[decide_eq_false (show ¬ 1<=op by omega)]at hR;subst hR;have f1:(op<1)=True:=eq_true g1;simp only[go_sem,f1];exact Ah rfl rfl
  have f1:(op<1)=False:=eq_false g1;rw[decide_eq_true (show 1<=op by omega)]at hR;by_cases g2:15<op
  .rw[decide_eq_false (show ¬ op<=15 by omega)]at hR;subst hR;have f2:((15:Int)<op)=True:=eq_true g2;simp only[go_sem,f1,f2,gt_iff_lt];exact Ah rfl rfl
  have f2:((15:Int)<op)=False:=eq_false g2;rw[decide_eq_true (show op<=15 by omega)]at hR;simp only[go_sem,f1,f2,gt_iff_lt];exact hk _ _ ⟨⟨rfl,rfl⟩,⟨by omega,by omega⟩,by grind⟩
 clear hR;rintro e σ ⟨⟨rfl,rfl⟩,qX,hR⟩;refine F0 (fun e σ=>e=[(1,.ptr 0 0 0),(3,.bool (F8 op))]/\σ=[.row [iV op,iV line,.str nm,.str arg,SL iz it (idx.map Xp.row),iV xo,iV xn,.str xm,SL xz xt (xl.map Xp.row),SL bz bt (body.map Sp.row),SL ez et (els.map Sp.row)] 98 0 0]) (fun k' hk=>?_) ?_
 .unfold F8 at hk;cases q2:(op==2);rotate_left
  .simp only[go_sem,q2];exact hk _ _ ⟨by grind,rfl⟩
  cases q3:(op==3);rotate_left
  .simp only[go_sem,q2,q3];exact hk _ _ ⟨by grind,rfl⟩
  cases q7:(op==7);rotate_left
  .simp only[go_sem,q2,q3,q7];exact hk _ _ ⟨by grind,rfl⟩
  cases q8:(op==8)
  .simp only[go_sem,q2,q3,q7,q8];exact hk _ _ ⟨by grind,rfl⟩
  .simp only[go_sem,q2,q3,q7,q8];exact hk _ _ ⟨by grind,rfl⟩
 rintro e σ ⟨rfl,rfl⟩;refine F0 (fun e σ=>(e=[(1,.ptr 0 0 0)]/\σ=[.row [iV op,iV line,.str nm,.str arg,SL iz it (idx.map Xp.row),iV xo,iV xn,.str xm,SL xz xt (xl.map Xp.row),SL bz bt (body.map Sp.row),SL ez et (els.map Sp.row)] 98 0 0])/\R=((A4&&(A5&&(A6&&(A7&&(A8&&(A9&&(A10)))))))&&(B1&&B2))) (fun k' hk=>?_) ?_
 .cases hn:F8 op
  .rw[hn,if_neg AE]at h3;rw[<-h3]at qf;cases A3
   .subst hR;simp only[go_sem,A1,Ay];refine Ab qf rfl ?_;simp only[go_sem,A1,Ay];exact Ah rfl rfl
   .simp only[go_sem,A1,Ay];refine Ab qf rfl ?_;simp only[go_sem,A1,Ay];exact hk _ _ ⟨⟨rfl,rfl⟩,by grind⟩
  .rw[hn,if_pos rfl]at h3;have h3:=h3.symm;cases A3
   .subst hR;simp only[go_sem,A1,Ay,h3];exact Ah rfl rfl
   .simp only[go_sem,A1,Ay,h3];exact hk _ _ ⟨⟨rfl,rfl⟩,by grind⟩
 clear hR;rintro e σ ⟨⟨rfl,rfl⟩,hR⟩;refine F0 (fun e σ=>(e=[(1,.ptr 0 0 0)]/\σ=[.row [iV op,iV line,.str nm,.str arg,SL iz it (idx.map Xp.row),iV xo,iV xn,.str xm,SL xz xt (xl.map Xp.row),SL bz bt (body.map Sp.row),SL ez et (els.map Sp.row)] 98 0 0])/\R=((A5&&(A6&&(A7&&(A8&&(A9&&(A10))))))&&(B1&&B2))) (fun k' hk=>?_) ?_
 .by_cases qv:op=15
  .rw[if_pos qv]at h4;rw[<-h4]at qp;have qr:(op==15)=true:=by simp[qv]
   cases A4
   .subst hR;simp only[go_sem,A1,Ay,qr,bne];refine Ab qp rfl ?_;simp only[go_sem,A1,Ay];exact Ah rfl rfl
   .simp only[go_sem,A1,Ay,qr,bne];refine Ab qp rfl ?_;simp only[go_sem,A1,Ay,qr,bne];exact hk _ _ ⟨⟨rfl,rfl⟩,by grind⟩
  .rw[if_neg qv]at h4;have h4:=h4.symm;have qr:(op==15)=false:=by simp[qv]
   cases A4
   .subst hR;simp only[go_sem,A1,Ay,h4,qr,bne];exact Ah rfl rfl
   .simp only[go_sem,A1,Ay,h4,qr,bne];exact hk _ _ ⟨⟨rfl,rfl⟩,by grind⟩
 clear hR;rintro e σ ⟨⟨rfl,rfl⟩,hR⟩;refine F0 (fun e σ=>(e=[(1,.ptr 0 0 0)]/\σ=[.row [iV op,iV line,.str nm,.str arg,SL iz it (idx.map Xp.row),iV xo,iV xn,.str xm,SL xz xt (xl.map Xp.row),SL bz bt (body.map Sp.row),SL ez et (els.map Sp.row)] 98 0 0])/\R=((A8&&(A9&&(A10)))&&(B1&&B2))) (fun k' hk=>?_) ?_
 .have hN:idx.length=0\/idx.length=1\/2<=idx.length:=by omega
  rcases hN with h | h | h
  .have qg:idx=[]:=Zc.1 h;have f1:((1:Int)<(idx.length:Int))=False:=eq_false AA;have f2:((0:Int)<(idx.length:Int))=False:=eq_false AA;have f3:((idx.length:Int)==1)=false:=by simp[h]
   rw[h5,h6,h7]at hR
   have hR:R=((A8&&(A9&&A10))&&(B1&&B2)):=by rw[hR,qg];cases(op==1)<;>rfl
   cases q1:(op==1)
   .simp only[go_sem,A1,Ay,q1,bne,qd,f1,f2,f3,gt_iff_lt];exact hk _ _ ⟨⟨rfl,rfl⟩,hR⟩
   .simp only[go_sem,A1,Ay,q1,bne,qd,f1,f2,f3,gt_iff_lt];exact hk _ _ ⟨⟨rfl,rfl⟩,hR⟩
  .obtain⟨a,qg⟩:=List.length_eq_one_iff.1 h;have f1:((1:Int)<(idx.length:Int))=False:=eq_false AA;have f2:((0:Int)<(idx.length:Int))=True:=eq_true AA;have f3:((idx.length:Int)==1)=true:=by simp[h]
   have qu:=Bi a;have qs:=Dw a;have hf:=hi a (by grind);have qk:(idx.map Xp.row)[0]?=some [iV a.op,iV a.n,.str a.nm,SL a.z a.t (a.l.map Xp.row)]:=by rw[qg,<-qu];rfl
   rw[qu]at hf qs;have h5:A5=true:=by rw[h5,qg];rfl
   have h7:A7=Hv a:=by rw[h7,qg,B5,Db,Aiu]
   have h6:A6=(op==1):=by rw[h6,qg];simp
   rw[h5,h6,h7]at hR;cases q1:(op==1)
   .rw[q1]at hR;subst hR;simp only[go_sem,A1,Ay,q1,bne,qd,f1,f2,f3,gt_iff_lt];exact Ah rfl rfl
   rw[q1]at hR;cases hab:Hv a
   .rw[hab]at hR hf;subst hR;simp only[go_sem,A1,Ay,q1,bne,qd,f1,f2,f3,gt_iff_lt,qk];refine Ab hf (by grind) ?_;simp only[go_sem,A1,Ay];exact Ah rfl rfl
   .rw[hab]at hR hf;simp only[go_sem,A1,Ay,q1,bne,qd,f1,f2,f3,gt_iff_lt,qk];refine Ab hf (by grind) ?_;simp only[go_sem,A1,Ay];exact hk _ _ ⟨⟨rfl,rfl⟩,hR⟩
  .have f1:((1:Int)<(idx.length:Int))=True:=eq_true AA;rw[show A5=false from by grind]at hR;subst hR;simp only[go_sem,A1,Ay,qd,f1,gt_iff_lt];exact Ah rfl rfl
 clear hR;rintro e σ ⟨⟨rfl,rfl⟩,hR⟩;refine F0 (fun e σ=>e=[(1,.ptr 0 0 0),(4,.bool (Ek op))]/\σ=[.row [iV op,iV line,.str nm,.str arg,SL iz it (idx.map Xp.row),iV xo,iV xn,.str xm,SL xz xt (xl.map Xp.row),SL bz bt (body.map Sp.row),SL ez et (els.map Sp.row)] 98 0 0]) (fun k' hk=>?_) ?_
 .unfold Ek at hk;cases q1:(op==1);rotate_left
  .simp only[go_sem,q1];exact hk _ _ ⟨by grind,rfl⟩
  cases q2:(op==2);rotate_left
  .simp only[go_sem,q1,q2];exact hk _ _ ⟨by grind,rfl⟩
  cases q3:(op==3);rotate_left
  .simp only[go_sem,q1,q2,q3];exact hk _ _ ⟨by grind,rfl⟩
  cases q14:(op==14)
  .simp only[go_sem,q1,q2,q3,q14];exact hk _ _ ⟨by grind,rfl⟩
  .simp only[go_sem,q1,q2,q3,q14];exact hk _ _ ⟨by grind,rfl⟩
 rintro e σ ⟨rfl,rfl⟩;refine F0 (fun e σ=>(e=[(1,.ptr 0 0 0)]/\σ=[.row [iV op,iV line,.str nm,.str arg,SL iz it (idx.map Xp.row),iV xo,iV xn,.str xm,SL xz xt (xl.map Xp.row),SL bz bt (body.map Sp.row),SL ez et (els.map Sp.row)] 98 0 0])/\R=((A9&&(A10))&&(B1&&B2))) (fun k' hk=>?_) ?_
 .cases hn:Ek op
  .rw[hn,if_neg AE]at h8;rw[<-h8]at qj;cases A8
   .subst hR;simp only[go_sem,A1,Ay];refine Ab qj AB ?_;simp only[go_sem,A1,Ay];exact Ah rfl rfl
   .simp only[go_sem,A1,Ay];refine Ab qj AB ?_;simp only[go_sem,A1,Ay];exact hk _ _ ⟨⟨rfl,rfl⟩,by grind⟩
  .rw[hn,if_pos rfl]at h8;rw[<-h8]at he;cases A8
   .subst hR;simp only[go_sem,A1,Ay];refine Ab he AB ?_;simp only[go_sem,A1,Ay];exact Ah rfl rfl
   .simp only[go_sem,A1,Ay];refine Ab he AB ?_;simp only[go_sem,A1,Ay];exact hk _ _ ⟨⟨rfl,rfl⟩,by grind⟩
 clear hR;rintro e σ ⟨⟨rfl,rfl⟩,hR⟩;refine F0 (fun e σ=>e=[(1,.ptr 0 0 0),(5,.bool (Bv op))]/\σ=[.row [iV op,iV line,.str nm,.str arg,SL iz it (idx.map Xp.row),iV xo,iV xn,.str xm,SL xz xt (xl.map Xp.row),SL bz bt (body.map Sp.row),SL ez et (els.map Sp.row)] 98 0 0]) (fun k' hk=>?_) ?_
 .unfold Bv at hk;by_cases g1:2<=op
  .have f1:((2:Int)<=op)=True:=eq_true g1;rw[decide_eq_true g1]at hk;by_cases g2:op<=8
   .have f2:(op<=8)=True:=eq_true g2;rw[decide_eq_true g2]at hk;simp only[go_sem,f1,f2,ge_iff_le];exact hk _ _ ⟨rfl,rfl⟩
   .have f2:(op<=8)=False:=eq_false g2;rw[decide_eq_false g2]at hk;simp only[go_sem,f1,f2,ge_iff_le];exact hk _ _ ⟨rfl,rfl⟩
  .have f1:((2:Int)<=op)=False:=eq_false g1;rw[decide_eq_false g1]at hk;simp only[go_sem,f1,ge_iff_le];exact hk _ _ ⟨rfl,rfl⟩
 rintro e σ ⟨rfl,rfl⟩;refine F0 (fun e σ=>(e=[(1,.ptr 0 0 0)]/\σ=[.row [iV op,iV line,.str nm,.str arg,SL iz it (idx.map Xp.row),iV xo,iV xn,.str xm,SL xz xt (xl.map Xp.row),SL bz bt (body.map Sp.row),SL ez et (els.map Sp.row)] 98 0 0])/\R=(B1&&B2)) (fun k' hk=>?_) ?_
 .have e1:((0:Int)<(body.length:Int))=(body.isEmpty=false):=by
   cases body with
   | nil=>simp
   | cons x r=>simp
  have e2:((0:Int)<(els.length:Int))=(els.isEmpty=false):=by
   cases els with
   | nil=>simp
   | cons x r=>simp
  rw[h9,qG]at hR
  cases hn:Bv op<;>cases hbe:body.isEmpty
  .rw[hn,hbe]at hR;subst hR;simp only[go_sem,A1,Ay,qi,e1,hbe,gt_iff_lt,decide_true];exact Ah rfl rfl
  all_goals
   rw[hn,hbe]at hR
   cases q2:(op==2)<;>cases hee:els.isEmpty
   .rw[q2,hee]at hR;subst hR;simp only[go_sem,A1,Ay,qi,qn,e1,e2,hbe,hee,q2,bne,gt_iff_lt,decide_true];exact Ah rfl rfl
   all_goals
    rw[q2,hee]at hR;simp only[go_sem,A1,Ay,qi,qn,e1,e2,hbe,hee,q2,bne,gt_iff_lt,decide_true];exact hk _ _ ⟨⟨rfl,rfl⟩,by grind⟩
 clear hR;rintro e σ ⟨⟨rfl,rfl⟩,hR⟩;cases B1
 .subst hR;simp only[go_sem];refine Ab hb AB ?_;simp only[go_sem];exact Ah rfl rfl
 .cases B2
  .subst hR;simp only[go_sem];refine Ab hb AB ?_;simp only[go_sem];refine Ab hs AB ?_;simp only[go_sem];exact Ah rfl rfl
  .subst hR;simp only[go_sem];refine Ab hb AB ?_;simp only[go_sem];refine Ab hs AB ?_;simp only[go_sem];exact Ah rfl rfl
def Aju(z:Bool)(t:Nat)(l:List Sp)(hl:l.length<=1000000000)(ih:∀ y∈l,Fn TT PT 148 [.agg y.row] (.bool (Pv y))):Fn TT PT 113 [SL z t (l.map Sp.row)] (.bool (Ly l)):=by
 have qa:(l.map Sp.row).length=l.length:=Ar ..;rw[At3];obtain⟨R,hR⟩:∃ b,b=l.all Pv:=⟨_,rfl⟩;rw[<-hR];refine Bg T113 rfl ?_;simp only[go_sem];refine Bk (α:=Nat) (fun i=>l.length - i) (fun i=>[(0,SL z t (l.map Sp.row)),(3,iV (i:Int))]) (fun _=>[]) (fun i=>i<=l.length/\l.all Pv=(l.drop i).all Pv) ?_ 0 ⟨Ax _,rfl⟩;rintro i ⟨hi,qc⟩ jh;refine Bd Bj0 ?_;by_cases hc:i<l.length
 .have f1:((i:Int)<(l.length:Int))=True:=eq_true AA;have qA:=A2 (show i<9223372036854775807 by omega);obtain⟨a,ha⟩:∃ a,l[i]?=some a:=⟨_,B9 hc⟩;have qs:=Hc a;have hf:=ih a (F7 ha);have qk:(l.map Sp.row)[i]?=some a.row:=by rw[Au,ha,Ir]
  have qz:l.drop i=a::l.drop (i+1):=by rw[Io hc,(Ao.1 ha).2]
  have qD:=O3 a;rw[qz,B5]at qc;generalize a.row=ar at qk hf qs qD;have qN:ar.take 11=ar:=Ic AA;cases hab:Pv a
  .rw[hab]at hf qc;rw[qc]at hR;subst hR;simp only[go_sem,qa,f1,qk,qD,qN];refine Ab hf (by grind) ?_;simp only[go_sem];exact Ah rfl rfl
  .rw[hab]at hf qc;simp only[go_sem,qa,f1,qk,qD,qN];refine Ab hf (by grind) ?_;simp only[go_sem,qA];exact Av (jh (i+1) AA ⟨hc,by grind⟩) rfl
 .have f1:((i:Int)<(l.length:Int))=False:=eq_false AA;rw[qc,D1 AA]at hR;subst hR;simp only[go_sem,qa,f1];exact Ah rfl rfl
def Amv:∀ (N:Nat) (s:Sp),C3 s.row<=N->N<=1000000000->Fn TT PT 148 [.agg s.row] (.bool (Pv s))
 | 0,s,h,_=>by rw[N9]at h;omega
 | N+1,s,h,hN=>by
  have h1:=N9 s;have h2:=L9 (f:=Xp.row) (fun x=>by grind[G8]) s.idx;have h3:=L9 (f:=Sp.row) (fun x=>by grind[N9]) s.body;have h4:=L9 (f:=Sp.row) (fun x=>by grind[N9]) s.els;have h5:=L9 (f:=Xp.row) (fun x=>by grind[G8]) s.ex.l;have h6:=G8 s.ex;refine A97 s (fun x hx=>Age N x ?_ AA) (Age N s.ex AA AA) AA AA AA AA (Aju _ _ _ AA fun y hy=>Amv N y ?_ AA) (Aju _ _ _ AA fun y hy=>Amv N y ?_ AA)
  .grind[J9]
  .grind[J9]
  grind[J9]
set_option maxHeartbeats 1000000 in
def Bku(d:Dp):Fn TT PT 111 [.agg d.row] (.bool (Wm d)):=by
 obtain⟨kind,line,nm,size,init,on⟩:=d;obtain⟨R,hR⟩:∃ b,b=Wm ⟨kind,line,nm,size,init,on⟩:=⟨_,rfl⟩;rw[<-hR];unfold Wm at hR;simp only at hR;have qf:=Vf nm;have qC:=Vf on;refine Bg T111 rfl ?_;unfold Dp.row;simp only;obtain⟨A3,h3⟩:∃ b,b=Bm nm:=⟨_,rfl⟩;obtain⟨A6,h6⟩:∃ b,b=(if kind=5 then Bm on else on==[]):=⟨_,rfl⟩;obtain⟨A7,h7⟩:∃ b,b=(decide (-9223372036854775808<init)&&(init==0||(kind==1||kind==2))):=⟨_,rfl⟩;rw[<-h3,<-h6,<-h7]at hR;rw[<-h3]at qf;refine F0 (fun e σ=>e=[(1,.ptr 0 0 0)]/\σ=[.row [iV kind,iV line,.str nm,iV size,iV init,.str on] 80 0 0]) (fun k' hk=>?_) ?_
 .simp only[go_sem];exact hk _ _ ⟨rfl,rfl⟩
 rintro e σ ⟨rfl,rfl⟩;refine F0 (fun e σ=>(e=[(1,.ptr 0 0 0)]/\σ=[.row [iV kind,iV line,.str nm,iV size,iV init,.str on] 80 0 0])/\R=(A6&&A7)) (fun k' hk=>?_) ?_
 .by_cases g1:kind<1
  .rw[decide_eq_false (show ¬ 1<=kind by omega)]at hR;subst hR;have f1:(kind<1)=True:=eq_true g1;simp only[go_sem,f1];exact Ah rfl rfl
  have f1:(kind<1)=False:=eq_false g1;rw[decide_eq_true (show 1<=kind by omega)]at hR;by_cases g2:6<kind
  .rw[decide_eq_false (show ¬ kind<=6 by omega)]at hR;subst hR;have f2:((6:Int)<kind)=True:=eq_true g2;simp only[go_sem,f1,f2,gt_iff_lt];exact Ah rfl rfl
  have f2:((6:Int)<kind)=False:=eq_false g2;rw[decide_eq_true (show kind<=6 by omega)]at hR;cases A3
  .subst hR;simp only[go_sem,f1,f2,gt_iff_lt];refine Ab qf rfl ?_;simp only[go_sem,A1];exact Ah rfl rfl
  by_cases g4:size<0
  .rw[decide_eq_false (show ¬ 0<=size by omega)]at hR;subst hR;have f4:(size<0)=True:=eq_true g4;simp only[go_sem,f1,f2,gt_iff_lt];refine Ab qf rfl ?_;simp only[go_sem,f4,Ay];exact Ah rfl rfl
  have f4:(size<0)=False:=eq_false g4;rw[decide_eq_true (show 0<=size by omega)]at hR
  cases q1:(kind==1)<;>cases q5:(size==0)
  .rw[q1,q5]at hR;subst hR;simp only[go_sem,f1,f2,gt_iff_lt];refine Ab qf rfl ?_;simp only[go_sem,f4,Ay,A1,bne,q1,q5];exact Ah rfl rfl
  all_goals
   rw[q1,q5]at hR;simp only[go_sem,f1,f2,gt_iff_lt];refine Ab qf rfl ?_;simp only[go_sem,f4,Ay,A1,bne,q1,q5];exact hk _ _ ⟨⟨rfl,rfl⟩,by grind⟩
 clear hR;rintro e σ ⟨⟨rfl,rfl⟩,hR⟩;refine F0 (fun e σ=>(e=[(1,.ptr 0 0 0)]/\σ=[.row [iV kind,iV line,.str nm,iV size,iV init,.str on] 80 0 0])/\R=A7) (fun k' hk=>?_) ?_
 .by_cases h5:kind=5
  .rw[if_pos h5]at h6;have q5:(kind==5)=true:=by simp[h5]
   rw[<-h6]at qC;cases A6
   .subst hR;simp only[go_sem,q5,bne,Ay,A1];refine Ab qC rfl ?_;simp only[go_sem,A1];exact Ah rfl rfl
   .simp only[go_sem,q5,bne,Ay,A1];refine Ab qC rfl ?_;simp only[go_sem,q5,bne,Ay,A1];exact hk _ _ ⟨⟨rfl,rfl⟩,by grind⟩
  .rw[if_neg h5]at h6;have h6:=h6.symm;have q5:(kind==5)=false:=by simp[h5]
   cases A6
   .subst hR;simp only[go_sem,q5,h6,bne,Ay,A1];exact Ah rfl rfl
   .simp only[go_sem,q5,h6,bne,Ay,A1];exact hk _ _ ⟨⟨rfl,rfl⟩,by grind⟩
 clear hR;rintro e σ ⟨⟨rfl,rfl⟩,hR⟩;rw[h7]at hR;by_cases g7 : -9223372036854775808<init
 .have f7:((-9223372036854775808:Int)<init)=True:=eq_true g7;rw[decide_eq_true g7]at hR
  cases q0:(init==0)<;>cases q1:(kind==1)<;>cases q2:(kind==2)
  all_goals
   rw[q0,q1,q2]at hR;subst hR;simp only[go_sem,f7,q0,q1,q2,gt_iff_lt];exact Ah rfl rfl
 .have f7:((-9223372036854775808:Int)<init)=False:=eq_false g7;rw[decide_eq_false g7]at hR;subst hR;simp only[go_sem,f7,gt_iff_lt];exact Ah rfl rfl
set_option maxHeartbeats 1000000 in
def Bkv(p:Gp)(hb:C3 p.row<=1000000000):Fn TT PT 65 [.agg p.row] (.bool (shG p)):=by
 obtain⟨dz,dt,decls,tz,tt,thrs⟩:=p;rw[Anw]at hb;simp only at hb;have b1:=L9 (f:=Dp.row) (fun x=>by grind[Bqi]) decls;have b2:=L9 (f:=Tp.row) (fun x=>by grind[Ab1]) thrs;have n1:(decls.map Dp.row).length=decls.length:=Ar ..;have n2:(thrs.map Tp.row).length=thrs.length:=Ar ..;obtain⟨R,hR⟩:∃ b,b=shG ⟨dz,dt,decls,tz,tt,thrs⟩:=⟨_,rfl⟩;rw[<-hR];unfold shG at hR;simp only at hR;unfold Gp.row;simp only;refine Bg T65 rfl ?_;simp only[go_sem];refine Bk (α:=Nat) (fun i=>decls.length - i) (fun i=>[(1,.ptr 0 0 0),(3,iV (i:Int))]) (fun _=>[.row [SL dz dt (decls.map Dp.row),SL tz tt (thrs.map Tp.row)] 29 0 0]) (fun i=>i<=decls.length/\decls.all Wm=(decls.drop i).all Wm) ?_ 0 ⟨Ax _,rfl⟩;rintro i ⟨hi,hc⟩ ih;refine Bd Bpi ?_;rcases Bh i decls.length with h' | h'
 .obtain⟨x,hx,hd,hm⟩:=Br h';rw[hd,B5]at hc;have hf:=Bku x;have qe:x.row=[iV x.kind,iV x.line,.str x.nm,iV x.size,iV x.init,.str x.on]:=rfl;rw[qe]at hf;cases hx1:Wm x
  .rw[hx1]at hf hc;obtain rfl:R=false:=by grind
   simp only[go_sem,n1,Az h',Au,hx,qe];refine Ab hf AB ?_;simp only[go_sem,A1];exact Ah rfl rfl
  .rw[hx1]at hf hc;simp only[go_sem,n1,Az h',Au,hx,qe];refine Ab hf AB ?_;simp only[go_sem,Ay,A2 (show i<9223372036854775807 by omega)];exact Av (ih (i+1) AA ⟨h',by grind⟩) rfl
 .rw[D1 h']at hc;rw[hc]at hR;clear ih hc hi;simp only[go_sem,n1,Bl h'];refine Bk (α:=Nat × St) (fun a=>thrs.length - a.1) (fun a=>[(1,.ptr 0 0 0),(4,iV (a.1:Int))]) (fun a=>a.2) (fun a=>a.1<=thrs.length/\a.2[0]?=some (.row [SL dz dt (decls.map Dp.row),SL tz tt (thrs.map Tp.row)] 29 0 0)/\thrs.all shT=(thrs.drop a.1).all shT) ?_ (0,_) ⟨Ax _,rfl,rfl⟩;rintro⟨i,s⟩ ⟨hi,hs,hc⟩ ih;simp only at hi hc hs ih;refine Bd Bpk ?_;rcases Bh i thrs.length with h' | h'
  .obtain⟨x,hx,hd,hm⟩:=Br h';rw[hd,B5]at hc;have qJ:=J9 (f:=Tp.row) hm;obtain⟨nm,line,lz,lt,locals,bz,bt,body⟩:=x;rw[Ab1]at qJ;simp only at qJ;have b3:=L9 (f:=fun s=>[V.str s]) (fun x=>by grind[C3,V.bulk]) locals;have b4:=L9 (f:=Sp.row) (fun x=>by grind[N9]) body;have n3:(locals.map fun s=>[V.str s]).length=locals.length:=Ar ..;have qy:shT ⟨nm,line,lz,lt,locals,bz,bt,body⟩=false->R=false:=fun h=>by grind
   have qY:shT ⟨nm,line,lz,lt,locals,bz,bt,body⟩=(locals.all Bm&&(Bm nm&&Ly body)):=rfl;have qe:Tp.row ⟨nm,line,lz,lt,locals,bz,bt,body⟩=[.str nm,iV line,SL lz lt (locals.map fun x=>[V.str x]),SL bz bt (body.map Sp.row)]:=rfl;obtain⟨s',qE⟩:∃ s',s'=s++[Ob.row [.str nm,iV line,SL lz lt (locals.map fun x=>[V.str x]),SL bz bt (body.map Sp.row)] 84 0 0]:=⟨_,rfl⟩;have k1:s'[s.length]?=some (.row [.str nm,iV line,SL lz lt (locals.map fun x=>[V.str x]),SL bz bt (body.map Sp.row)] 84 0 0):=by rw[qE,F6 (Aj _),Is];rfl
   have k0:s'[0]?=some (.row [SL dz dt (decls.map Dp.row),SL tz tt (thrs.map Tp.row)] 29 0 0):=by rw[qE];exact By hs
   simp only[go_sem,hs,n2,Az h',Au,hx,qe];rw[<-qE];refine Bk (α:=Nat) (fun k=>locals.length - k) (fun k=>[(1,.ptr 0 0 0),(4,iV (i:Int)),(5,.ptr s.length 0 0),(6,iV (k:Int))]) (fun _=>s') (fun k=>k<=locals.length/\locals.all Bm=(locals.drop k).all Bm) ?_ 0 ⟨Ax _,rfl⟩;rintro k ⟨hk,hl⟩ jh;refine Bd Bpj ?_;rcases Bh k locals.length with g' | g'
   .obtain⟨y,hy,qU,qZ⟩:=Br g';rw[qU,B5]at hl;have hf:=Vf y;cases hy1:Bm y
    .rw[hy1]at hf hl;obtain rfl:=qy (by grind);simp only[go_sem,k1,n3,Az g',Au,hy];refine Ab hf AB ?_;simp only[go_sem,A1];exact Ah rfl rfl
    .rw[hy1]at hf hl;simp only[go_sem,k1,n3,Az g',Au,hy];refine Ab hf AB ?_;simp only[go_sem,Ay,A2 (show k<9223372036854775807 by omega)];exact Av (jh (k+1) AA ⟨g',by grind⟩) rfl
   .rw[D1 g']at hl;clear jh;have qt:=Vf nm;have qw:=Aju bz bt body AA fun y hy=>Amv 1000000000 y (by grind[J9]) (Aj _)
    cases qB:Bm nm
    .rw[qB]at qt;obtain rfl:=qy (by grind);simp only[go_sem,k1,n3,Bl g'];refine Ab qt AB ?_;simp only[go_sem,A1];exact Ah rfl rfl
    .rw[qB]at qt;cases hb1:Ly body
     .rw[hb1]at qw;obtain rfl:=qy (by grind);simp only[go_sem,k1,n3,Bl g'];refine Ab qt AB ?_;simp only[go_sem,Ay,k1];refine Ab qw AB ?_;simp only[go_sem,A1];exact Ah rfl rfl
     .rw[hb1]at qw;simp only[go_sem,k1,n3,Bl g'];refine Ab qt AB ?_;simp only[go_sem,Ay,k1];refine Ab qw AB ?_;simp only[go_sem,Ay,A2 (show i<9223372036854775807 by omega)];refine Av (ih (i+1,s') AA ⟨by omega,k0,?_⟩) rfl
      grind
  .rw[D1 h']at hc;rw[hc]at hR;by_cases hn:thrs.length=0
   .obtain rfl:R=false:=by
     grind
    have f1:((0:Int)<(thrs.length:Int))=False:=eq_false AA;simp only[go_sem,hs,n2,Bl h',gt_iff_lt,f1];exact Ah rfl rfl
   .obtain rfl:R=true:=by
     grind
    have f1:((0:Int)<(thrs.length:Int))=True:=eq_true AA;simp only[go_sem,hs,n2,Bl h',gt_iff_lt,f1];exact Ah rfl rfl
def Be4(n:Int):(Jw n).length<=24:=by
 have:=Xv n;unfold Jw
 split
 .simp
 .simp only[An];omega
def A1y{d:Dp}(h1:d.nm.length<=12)(h2:d.on.length<=12):(De d).length<=80:=by
 have a1:=Be4 d.init;have a2:=Xv d.size
 have a3:(if d.size=0 then [] else 91::(B3 d.size++[93])).length<=23:=by
  split
  .simp
  .simp;omega
 unfold De
 split
 .simp only[Aq,An,Dc];omega
 split
 .simp only[Aq,An,Dc];omega
 split
 .simp only[Aq,An,Dc];omega
 split
 .simp only[Aq,An,Dc];omega
 split
 .simp only[Aq,An,Dc];omega
 .simp only[Aq,An,Dc];omega
def Ary(a:List UInt8)(l:List (List UInt8)):(En (a::l)).length<=a.length+2+(En l).length:=by
 cases l with
 | nil=>simp[En]
 | cons b l=>simp only[En,Aq,An];omega
theorem P7{v:V}(h:v.rowB=true):v.cellB=true:=by cases v<;>simp[V.rowB]at h<;>rfl
def Ajc{v:V}(h:v.cellB=true):v.cells=[v]/\[v].all V.cellB=true:=⟨by cases v<;>simp[V.cellB]at h<;>rfl,by simp only[B5,Db,h];rfl⟩
def Nk(s:List UInt8):List V:=[.str s]
def Ay1{s s':St}{m m' e e' qO n:Nat}{u w:V}{ys:List (List V)}(he:e≠e')(hu:u=.nils\/∃ i g cs,u=.sl i g 0 n m true/\s[i]?=some (.row cs e g 0))(h:GW s m' e' qO w ys)(hf:∀ j,(∀ i g,u=.sl i g 0 n m true->j≠i)->j<s.length->s'[j]?=s[j]?):GW s' m' e' qO w ys:=by
 rcases h with h | ⟨hn,j,g,rfl,ho,qS⟩
 .exact .inl h
 .refine .inr ⟨hn,j,g,rfl,?_,qS⟩;rw[hf j ?_ (Ao.1 ho).1]
  .exact ho
  .rintro i g' rfl rfl;rcases hu with hu | ⟨i,g2,cs,hu,hs⟩
   .cases hu
   .cases hu;rw[hs]at ho;cases ho;exact he rfl
def Ay2{s:St}{m e lo:Nat}{u:V}{xs:List (List V)}(h:GW s m e lo u xs):u=.nils\/∃ i g cs,u=.sl i g 0 xs.length m true/\s[i]?=some (.row cs e g 0):=by
 rcases h with⟨h,-⟩ | ⟨-,i,g,h,ho,-⟩
 .exact .inl h
 .exact .inr ⟨i,g,_,h,ho⟩
theorem Vp(z:Bool)(t:Nat)(xs:List (List V)):(SL z t xs).rowB=true:=by
 unfold SL
 split<;>rfl
def Auf(x:Tp):x.row.all V.rowB=true:=by
 unfold Tp.row;simp only[B5,Db,Vp];rfl
def Aeb(D:List Dp):∀ r∈D.map Dp.row,r.length=6:=by intro r hr;obtain⟨x,-,rfl⟩:=Cs.1 hr;rfl
def Ajv(D:List Dp):∀ r∈D.map Dp.row,r.all V.rowB=true:=by intro r hr;obtain⟨x,-,rfl⟩:=Cs.1 hr;rfl
def Va(D:List Tp):∀ r∈D.map Tp.row,r.length=4:=by intro r hr;obtain⟨x,-,rfl⟩:=Cs.1 hr;rfl
def Aec(D:List Tp):∀ r∈D.map Tp.row,r.all V.rowB=true:=by intro r hr;obtain⟨x,-,rfl⟩:=Cs.1 hr;exact Auf x
def A6g{x:Sp}(h:CnS x)(d:Nat)(D:Int)(g0:max D 0=(d:Int))(hl:(x.txt d).length<=10000000000000)(hd:d+x.sz<=1073741823):Fn TT PT 119 [.agg x.row,iV D] (.str (x.txt d)):=by
 have qm:=Hc x;refine Bg T119 rfl ?_
 have w0:WB [.row x.row 98 0 0,.row [.nilp,.nils] 213 0 0] [.row x.row 98 0 0,.row [.nilp,.nils] 213 0 0] 1 []:=by
  refine Atz (u:=.nils) ⟨.nilp,rfl,.inl rfl,D3⟩ ?_;exact Jh (Jl (s:=[]) (fun _ h=>by cases h) qm) AU
 obtain⟨s1,q1,v1⟩:=A9p h _ 1 [] d w0 (by simpa using hl) hd;obtain⟨s2,qM⟩:=Ayw v1;rw[Ba]at qM;have qe:=Fl x;rw[qe]at q1 qm ⊢;simp only[go_sem,g0];refine Ca q1 ?_;simp only[go_sem];refine Jg (.spec T156 rfl rfl qM) ?_;simp only[go_sem];exact Fw rfl
def A98{x:Sp}(h:CnS x)(d:Nat)(hl:(x.txt d).length<=10000000000000)(hd:d+x.sz<=1073741823):Fn TT PT 119 [.agg x.row,iV (d:Int)] (.str (x.txt d)):=A6g h d _ AA hl hd
def TS(s:St)(b:Nat):Prop:=∃ (z:Bool) (t:Nat) (l:List UInt8) (qb:Nat),s[b]?=some (.row [SL z t (B6 l),iV (qb:Int)] 89 0 0)/\qb<=l.length/\l.length<=9223372036854775807
def TW(s σ:St)(b:Nat):Prop:=s.length<=σ.length/\(∀ i,i<s.length->i≠b->σ[i]?=s[i]?)/\TS σ b/\b<s.length
def Pm{s:St}{b:Nat}(h:TS s b):b<s.length:=by
 obtain⟨z,t,l,a,h,-⟩:=h;exact(Ao.1 h).1
def Be5{s:St}{b:Nat}(h:TS s b):TW s s b:=⟨Aj _,fun _ _ _=>rfl,h,Pm h⟩
def Be6{s l:St}{b:Nat}(h:TS s b):TS (s++l) b:=by
 obtain⟨z,t,r,a,h,h'⟩:=h;exact⟨z,t,r,a,By h,h'⟩
theorem Aqo{z:Bool}{t:Nat}{l:List UInt8}{a:Int}{T:Nat}:(Ob.row [SL z t (B6 l),iV a] T 0 0).refs=[]:=by
 unfold SL
 split<;>rfl
def Ay3{T:Nat->Option AF}{pr:Nat->Option (List V->Option V)}{f p:Nat}{res:List AR}{thr:Bool}{body:AC}{vs:List V}{σ:St}{R:V->St->Prop}(hT:T f=some ⟨p,res,thr,body,none⟩)(hl:vs.length=p)
  (h:W T pr [.c body] (C4 0 vs) σ (Hd fun e' σ1=>∃ v,Cd e' σ1 res=some v/\(Ci v=true/\v.refs=[])/\(∀ i ob,i<σ.length->σ1[i]?=some ob->σ[i]?=some ob\/El σ.length [] ob.refs=true)/\R v (σ1.take σ.length))):∃ v σ',Bw T pr f vs σ v σ'/\R v σ':=by
 obtain⟨e',σ1,hE,v,hr,⟨h1,h2⟩,h3,h4⟩:=h;exact⟨v,_,⟨_,hT,rfl,.fn hT rfl hl hE hr h1 (by rw[h2];rfl) h3⟩,h4⟩
def Be7{s σ:St}{b:Nat}(h:TW s σ b):∀ i ob,i<s.length->σ[i]?=some ob->s[i]?=some ob\/El s.length [] ob.refs=true:=by
 intro i ob hi ho;by_cases hb:i=b
 .subst hb;obtain⟨z,t,l,a,h1,-⟩:=h.2.2.1;rw[ho]at h1;cases h1;exact .inr (by rw[Aqo];rfl)
 .rw[h.2.1 i hi hb]at ho;exact .inl ho
def Sj(l:List UInt8)(a n:Nat):Nat:=if a<l.length/\1<=n then((l[a]?).getD 0).toNat % n else 0
def Wn(l:List UInt8)(a n:Nat):Nat:=if a<l.length/\1<=n then a+1 else a
theorem O8{s:St}{b:Nat}{x:Ob}(h:s[b]?=some x):s.set b x=s:=by
 refine Wx fun i=>?_
 by_cases hi:b=i
 .subst hi;rw[Cr (Ao.1 h).1,h]
 .rw[Ce hi]
def Aw3{s:St}{b t:Nat}{z:Bool}{l:List UInt8}{qb:Nat}(hs:s[b]?=some (.row [SL z t (B6 l),iV (qb:Int)] 89 0 0))(h1:qb<=l.length)(h2:l.length<=9223372036854775807)(n:Nat)(hn:n<=1000000000):
  Bw TT PT 34 [.ptr b 0 0,iV (n:Int)] s (iV (Sj l qb n:Int)) (s.set b (.row [SL z t (B6 l),iV (Wn l qb n:Int)] 89 0 0)):=by
 have hw:TW s s b:=Be5 ⟨z,t,l,qb,hs,h1,h2⟩;have ql:(B6 l).length=l.length:=by simp[B6]
 suffices hh:∃ v s',Bw TT PT 34 [.ptr b 0 0,iV (n:Int)] s v s'/\v=iV (Sj l qb n:Int)/\s'=(s.set b (.row [SL z t (B6 l),iV (Wn l qb n:Int)] 89 0 0)) by
  obtain⟨v,s',h3,rfl,rfl⟩:=hh;exact h3
 refine Ay3 T34 rfl ?_
 have qF:¬ (qb<l.length/\1<=n)->iV 0=iV (Sj l qb n:Int)/\s.take s.length=(s.set b (.row [SL z t (B6 l),iV (Wn l qb n:Int)] 89 0 0)):=fun h=>by
  unfold Sj Wn;rw[if_neg h,if_neg h,O8 hs,Dq];exact⟨rfl,rfl⟩
 by_cases hg:l.length<=qb
 .have f1:((l.length:Int)<=(qb:Int))=True:=eq_true AA;simp only[go_sem];refine Af AD ?_;simp only[go_sem,hs,ql,f1];exact⟨_,rfl,⟨rfl,rfl⟩,fun i ob _ h=>.inl h,qF AA⟩
 .have f1:((l.length:Int)<=(qb:Int))=False:=eq_false AA;by_cases qB:n<1
  .have f2:((n:Int)<1)=True:=eq_true AA;simp only[go_sem];refine Af AD ?_;simp only[go_sem,hs,ql,f1,f2];exact⟨_,rfl,⟨rfl,rfl⟩,fun i ob _ h=>.inl h,qF AA⟩
  .have f2:((n:Int)<1)=False:=eq_false AA;simp only[go_sem];refine Af AD ?_;simp only[go_sem,hs,ql,f1,f2];have hx:∃ c:UInt8,l[qb]?=some c:=⟨_,B9 AA⟩;obtain⟨c,hc⟩:=hx;have qe:(B6 l)[qb]?=some [.int .u8 (c.toNat:Int)]:=by unfold B6;rw[Au,hc];rfl
   have e1:IntKind.i64.wrap ((qb:Int)+1)=((qb+1:Nat):Int):=by rw[Cm AA];rfl
   have qI:=Pm hw.2.2.1;have k1:(s.set b (.row [SL z t (B6 l),iV ((qb+1:Nat):Int)] 89 0 0))[b]?=some (.row [SL z t (B6 l),iV ((qb+1:Nat):Int)] 89 0 0):=by rw[Cr qI]
   have e2:IntKind.i64.wrap (((qb+1:Nat):Int) - 1)=(qb:Int):=by rw[Cm AA];omega
   have f3:((n:Int)=0)=False:=eq_false AA;have qV:c.toNat<256:=c.toNat_lt;have e3:IntKind.i64.wrap (c.toNat:Int)=(c.toNat:Int):=Cm AA;have e4:((c.toNat:Int).tmod (n:Int))=((c.toNat % n:Nat):Int):=by rw[Int.tmod_eq_emod_of_nonneg AA];rfl
   simp only[go_sem,e1];refine Af AD ?_;simp only[go_sem,k1,e2,ql,qe,f3,not_false_eq_true,e3,e4]
   have qm:TW s (s.set b (.row [SL z t (B6 l),iV ((qb+1:Nat):Int)] 89 0 0)) b:=
    ⟨by simp,fun i hi hb=>by rw[Ce (Ne.symm hb)],⟨z,t,l,qb+1,k1,by omega,h2⟩,qI⟩
   refine⟨_,rfl,⟨rfl,rfl⟩,Be7 qm,?_,?_⟩
   .unfold Sj;rw[if_pos AA,hc];rfl
   .unfold Wn;rw[if_pos AA,Ic AE]
def A99(l:List UInt8)(a n:Nat):(Sj l a n<n\/Sj l a n=0)/\Sj l a n<=255:=by
 unfold Sj
 split
 .rename_i h;have hm:=O0 ((l[a]?).getD 0).toNat (show 0<n by omega);have qW:=Nat.mod_le ((l[a]?).getD 0).toNat n;have:=((l[a]?).getD 0).toNat_lt;omega
 .omega
def Bqo{l:List UInt8}{a:Nat}(n:Nat)(h:a<=l.length):Wn l a n<=l.length:=by
 unfold Wn
 split<;>omega
def Aug{s:St}{b:Nat}(h:TS s b)(n:Nat)(hn:n<=1000000000):∃ (r:Nat) (s':St),Bw TT PT 34 [.ptr b 0 0,iV (n:Int)] s (iV (r:Int)) s'/\TW s s' b/\s'.length=s.length/\(r<n\/r=0)/\r<=255/\∀ z,Bw TT PT 34 [.ptr b 0 0,iV (n:Int)] (s++[z]) (iV (r:Int)) (s'++[z]):=by
 have hb:=Pm h;obtain⟨z,t,l,qb,hs,h1,h2⟩:=h;have hx:=Aw3 hs h1 h2 n hn;obtain⟨b1,b2⟩:=A99 l qb n;refine⟨_,_,hx,⟨by simp,fun i hi hb=>by rw[Ce (Ne.symm hb)],⟨z,t,l,_,Cr hb,Bqo n h1,h2⟩,hb⟩,by simp,b1,b2,fun z'=>?_⟩;have:=Aw3 (By (l:=[z']) hs) h1 h2 n hn;rw[Aie _ _ hb]at this;exact this
def Wh{τ:St}{i x t n:Nat}{cs:List V}{e:Env}(h:τ[i]?=some (.row cs t 0 0))(h1:e.get x=.ptr i 0 0)(hn:cs.length=n):Cd e τ [AR.cell x n false]=some (.agg cs):=by
 subst hn;simp only[Cd,Gs,h1,I4,h];simp[Hp]
def Bkw{cs:List V}(h:Da (.agg cs)=true):Ci (.agg cs)=true/\(V.agg cs).refs=[]:=⟨Aaq h,Xc h⟩
def Mw(nm:List UInt8):Prop:=Bm nm=true/\nm.length<=4
def Aag(l:List (List UInt8))(hl:(l.all fun x=>Bm x&&decide (x.length<=4))=true){j:Nat}(hj:j<l.length):∃ nm,(l.map fun x=>[V.str x])[j]?=some [.str nm]/\Mw nm:=by
 refine⟨l[j],by rw[Au,B9 hj];rfl,?_⟩;have:=Bu.1 hl l[j] (M4 _);simp only[Ai,decide_eq_true_eq]at this;exact this
def Baa(nm:List UInt8):Fn TT PT 108 [.str nm] (.agg (Xp.row ⟨2,0,nm,true,0,[]⟩)):=by
 refine Bg T108 rfl ?_;simp only[go_sem];exact Fw rfl
def Aw4(op:Int)(a c:Xp):Fn TT PT 107 [iV op,.agg a.row,.agg c.row] (.agg (Xp.row ⟨op,0,[],true,1,[a,c]⟩)):=by
 have ha:=Dw a;have hc:=Dw c;refine Bg T107 rfl ?_;rw[Bi ⟨op,0,[],true,1,[a,c]⟩];simp only[Aw,B0];rw[Bi a,Bi c]at *;simp only[go_sem];exact Fw AB
def EB:Nat->Nat
 | 0=>22
 | d+1=>2*EB d+10
theorem Ahb(d:Nat):22<=EB d:=by
 cases d with
 | zero=>exact Aj _
 | succ d=>
  have:∀ d,22<=EB d:=fun d=>by
   induction d with
   | zero=>exact Aj _
   | succ d ih=>simp only[EB];omega
  exact this (d+1)
def Aw5{d:Nat}(h:d≠0):EB d=2*EB (d - 1)+10:=by
 cases d with
 | zero=>exact absurd rfl h
 | succ d=>rfl
def Aw6(op:Int):(Bz op).length<=2:=by
 unfold Bz
 split<;>simp
def ZB:Nat->Nat
 | 0=>1
 | k+1=>1+4*ZB k
def SB(k:Nat)(x:Sp):Prop:=ShS x/\x.sz<=ZB k/\∀ d,d+k<=100->(x.txt d).length<=1000*ZB k
def Abj{k:Nat}:∀ {l:List Sp},(∀ x∈l,SB k x)->Sp.szs l<=l.length*ZB k
 | [],_=>by simp[Sp.szs]
 | x::l,h=>by
  have h1:=Abj (fun y hy=>h y (Cb _ hy));obtain⟨-,h3,-⟩:=h x B4;rw[Sp.szs,An,Ox];omega
def Agf{k d:Nat}:∀ {l:List Sp},(∀ x∈l,SB k x)->d+k<=100->(Sp.txts d l).length<=l.length*(1000*ZB k)
 | [],_,_=>by simp[Sp.txts]
 | x::l,h,hd=>by
  have h1:=Agf (fun y hy=>h y (Cb _ hy)) hd;obtain⟨-,-,h4⟩:=h x B4;have h4:=h4 d hd;rw[Oz,Aq,An,Ox];omega
def Ay4{s:Sp}(h1:s.nm.length<=4)(h2:s.arg.length<=4)(h3:(E6 s.idx).length<=56)(h4:s.op=1\/s.op=2\/s.op=3\/s.op=14->s.ex.txt.length<=118):(Cp s).length<=300:=by
 have hw:(Co s.op).length<=11:=by
  unfold Co
  split<;>simp
 unfold Cp
 repeat' split
 all_goals simp
 all_goals omega
def Bqp{k:Nat}{x:Sp}(h1:1<=x.op/\x.op<=15)(h2:x.idx.length<=1)(h3:x.op≠1->x.idx=[])(h4:∀ y∈x.idx,ShE y/\y.txt.length<=54)(h5:(x.op=1\/x.op=2\/x.op=3\/x.op=14)->ShE x.ex/\x.ex.txt.length<=118)(qh:Ek x.op=false->X5 x.ex)(h6:(F8 x.op=true/\x.nm=[])\/(F8 x.op=false/\Mw x.nm))(h7:(x.op≠15/\x.arg=[])\/(x.op=15/\Mw x.arg))
  (h8:Bv x.op=false->x.body=[]) (qx:x.op≠2->x.els=[]) (h9:Bv x.op=true->k≠0/\x.body.length<=3/\x.els.length<=1/\(∀ y∈x.body,SB (k - 1) y)/\∀ y∈x.els,SB (k - 1) y):SB k x:=by
 have hi:(E6 x.idx).length<=56:=by
  refine C8 (Akp _) ?_
  cases hx:x.idx with
  | nil=>simp
  | cons a r=>
   have:=(h4 a (by rw[hx];exact B4)).2;simp only;omega
 have l6:x.nm.length<=4:=by
  rcases h6 with⟨-,h⟩ | ⟨-,-,h⟩
  .rw[h];exact Ax _
  .exact h
 have l7:x.arg.length<=4:=by
  rcases h7 with⟨-,h⟩ | ⟨-,-,h⟩
  .rw[h];exact Ax _
  .exact h
 have g1:F8 x.op=true->x.nm=[]:=fun h=>by
  rcases h6 with⟨-,h'⟩ | ⟨h',-⟩
  .exact h'
  .rw[h]at h';cases h'
 have g2:F8 x.op=false->Bm x.nm=true:=fun h=>by
  rcases h6 with⟨h',-⟩ | ⟨-,h',-⟩
  .rw[h]at h';cases h'
  .exact h'
 have g3:x.op=15->Bm x.arg=true:=fun h=>by
  rcases h7 with⟨h',-⟩ | ⟨-,h',-⟩
  .exact absurd h h'
  .exact h'
 have g4:x.op≠15->x.arg=[]:=fun h=>by
  rcases h7 with⟨-,h'⟩ | ⟨h',-⟩
  .exact h'
  .exact absurd h' h
 have g5:Ek x.op=true->ShE x.ex:=fun h=>(h5 (by
  simp only[Ek,Ov,beq_iff_eq]at h
  exact h)).1
 have hh:=Ay4 l6 l7 hi (fun h=>(h5 h).2);cases hb:Bv x.op
 .have qH:=h8 hb
  have qK:x.els=[]:=by
   refine qx fun h=>?_
   rw[h]at hb;cases hb
  have hz:1<=ZB k:=by cases k<;>simp[ZB]
  refine⟨.mk h1 g1 g2 g3 g4 h2 h3 (fun y hy=>(h4 y hy).1) g5 qh h8 qx (by rw[qH];simp) (by rw[qK];simp),?_,fun d hd=>?_⟩
  .rw[Mc,qH,qK];simp[Sp.szs];omega
  .rw[N1,hb];simp only[Aq,Lk,Hg,if_false,An,Dc];omega
 .obtain⟨hk,ql,qq,hB,hE⟩:=h9 hb;obtain⟨k,rfl⟩:∃ j,k=j+1:=⟨k - 1,by omega⟩;rw[Nat.add_sub_cancel]at hB hE;refine⟨.mk h1 g1 g2 g3 g4 h2 h3 (fun y hy=>(h4 y hy).1) g5 qh h8 qx (fun y hy=>(hB y hy).1) (fun y hy=>(hE y hy).1),?_,fun d hd=>?_⟩
  .have h1:=Abj hB;have h2:=Abj hE;have h3:=E0 (ZB k) ql;have h4:=E0 (ZB k) qq;rw[Mc,ZB];omega
  .have h1:=Agf (d:=d+1) hB AA;have h2:=Agf (d:=d+1) hE AA;have h3:=E0 (1000*ZB k) ql;have h4:=E0 (1000*ZB k) qq;rw[N1,hb]
   have h5:(if x.els.isEmpty=true then [] else Ee d++125::32::101::108::115::101::32::123::10::Sp.txts (d+1) x.els).length<=2*d+9+(Sp.txts (d+1) x.els).length:=by
    split
    .simp
    .simp[Lk];omega
   simp only[Aq,Lk,if_true,An,Dc,ZB];omega
/-! end of the cases -/
/-! end of the cases -/
def declsL:List Dp:=[⟨1,0,[120],0,0,[]⟩,⟨1,0,[121],0,1,[]⟩,⟨2,0,[118],0,0,[]⟩,⟨1,0,[113],2,0,[]⟩,⟨3,0,[109],0,0,[]⟩,⟨3,0,[110],0,0,[]⟩,⟨4,0,[114],0,0,[]⟩,⟨5,0,[99],0,0,[109]⟩,⟨6,0,[102],0,0,[]⟩]
def Ai5:Ag (declsL.map Dp.row).flatten=[]:=by kernel_rfl
def A6h:FnO TT PT 33 [] (.sl 0 0 0 9 6 true) [.row (declsL.map Dp.row).flatten 80 0 0]:=by
 have hT:=T33
 obtain⟨F,h1,h2,h3⟩:=Vm (σ:=[]) (vs:=[]) (v:=.sl 0 0 0 9 6 true) (σ':=[.row (declsL.map Dp.row).flatten 80 0 0]) hT rfl (by simp only[go_sem];exact⟨rfl,rfl⟩) AS rfl (Ax _) (by
  intro ob qL i hi;simp only[Gm]at qL;subst qL;rw[Ob.refs,Ai5]at hi
  cases hi)
 have e:=h1.symm.trans hT;cases e;exact⟨_,hT,rfl,rfl,h3⟩
def Aqp(σ:St):CallS TT PT 33 [] σ (.sl σ.length 0 0 9 6 true) (σ++[.row (declsL.map Dp.row).flatten 80 0 0]):=by
 have h:=CallS.own (σ:=σ) (args:=[]) (Xj rfl) A6h
 have e1:own σ [] [.row (declsL.map Dp.row).flatten 80 0 0]=σ++[.row (declsL.map Dp.row).flatten 80 0 0]:=by
  unfold own;rw[Z6 rfl];simp only[St.freeze,Aw,B0,Ob.ren];rw[Sv _ _ (by rw[Ai5];simp)]
 have e2:(V.sl 0 0 0 9 6 true).ren (·+σ.length)=.sl σ.length 0 0 9 6 true:=by simp[V.ren]
 rw[e1,e2]at h;exact h
def MD(n:Nat)(D:List Dp):Prop:=(∀ d∈D,ShD d/\d.nm.length<=12/\d.on.length<=12)/\D.length<=n
def A6i:MD 9 declsL:=by
 refine⟨fun d hd=>?_,by decide⟩;simp only[declsL,Bp,L8,or_false]at hd
 rcases hd with rfl | rfl | rfl | rfl | rfl | rfl | rfl | rfl | rfl<;>exact⟨⟨by decide,by decide,by decide,by decide,by decide⟩,by decide,by decide⟩
def Iy{a b:AC}{k:List It}{e:Env}{σ:St}{Q:Env->St->Prop}(P:Env->St->Prop)(h1:∀ k',(∀ e σ,P e σ->W TT PT k' e σ Q)->W TT PT (.c a::k') e σ Q)(h2:∀ e σ,P e σ->W TT PT (.c b::k) e σ Q):W TT PT (.c (.seq a b)::k) e σ Q:=by
 rw[Anh];exact h1 _ h2
def MT(t:Tp):Prop:=Mw t.nm/\((∀ s∈t.locals,Mw s)/\t.locals.length<=5)/\∃ k,k<=7/\(∀ s∈t.body,SB k s)/\t.body.length<=40
def Alv{α:Type}{f:α->List UInt8}{M:Nat}:∀ {l:List α},(∀ x∈l,(f x).length<=M)->((l.map f).flatten).length<=l.length*M
 | [],_=>by simp
 | x::l,h=>by
  have h1:=h x B4;have h2:=Alv (l:=l) fun y hy=>h y (Cb _ hy)
  rw[Aw,Fd,Aq,An,G0];omega
def Auh:∀ {l:List (List UInt8)},(∀ s∈l,s.length<=4)->(En l).length<=l.length*6
 | [],_=>by simp[En]
 | a::l,h=>by
  have h1:=h a B4;have h2:=Auh (l:=l) fun y hy=>h y (Cb _ hy)
  have h3:=Ary a l;rw[An,G0];omega
def zb7:∀ {k:Nat},k<=7->ZB k<=21845:=by
 intro k hk;have:k=0\/k=1\/k=2\/k=3\/k=4\/k=5\/k=6\/k=7:=by omega
 rcases this with rfl | rfl | rfl | rfl | rfl | rfl | rfl | rfl<;>decide
def Ay5{t:Tp}(h:MT t):(D9 t).length<=900000000/\Sp.szs t.body<=1000000:=by
 obtain⟨h1,⟨h2,h3⟩,k,hk,h4,h5⟩:=h;have z:=zb7 hk;have a1:=Agf (d:=1) h4 AA;have a2:=Abj h4;have a3:=Auh fun s hs=>(h2 s hs).2
 have a4:t.body.length*ZB k<=40*21845:=Nat.mul_le_mul h5 z;have a5:t.body.length*(1000*ZB k)<=40*(1000*21845):=Nat.mul_le_mul h5 AA;have a6:=h1.2;refine⟨?_,by omega⟩;unfold D9;simp only[Aq,An,Dc];omega
def Bqq{D:List Dp}{L:List Tp}(hD:MD 16 D)(hL:∀ t∈L,MT t)(h5:L.length<=5)(h0:L≠[]):ShG ⟨true,0,D,true,0,L⟩/\(Ff ⟨true,0,D,true,0,L⟩).length<=10000000000/\∀ t∈L,Sp.szs t.body<=1000000:=by
 refine⟨⟨fun d hd=>(hD.1 d hd).1,fun t ht=>(hL t ht).1.1,fun t ht s hs=>((hL t ht).2.1.1 s hs).1,fun t ht s hs=>?_,h0⟩,?_,fun t ht=>(Ay5 (hL t ht)).2⟩
 .obtain⟨-,-,k,-,h4,-⟩:=hL t ht;exact(h4 s hs).1
 .have a1:=Alv (f:=fun d:Dp=>De d++[59,10]) (M:=82) (l:=D) fun d hd=>by
   have:=A1y (hD.1 d hd).2.1 (hD.1 d hd).2.2;simp only[Aq,An,Dc];omega
  have a2:=Alv (f:=D9) (M:=900000000) (l:=L) fun t ht=>(Ay5 (hL t ht)).1
  have a3:=hD.2;unfold Ff;rw[Aq];simp only;omega
def Be8{ls:List (List UInt8)}(h:(ls.all fun x=>Bm x&&decide (x.length<=4))=true):∀ s∈ls,Mw s:=fun s hs=>by
 have:=Bu.1 h s hs;simp only[Ai,decide_eq_true_eq]at this;exact this
def A4f(k:IntKind)(n d:Nat):Dy (some (.int k (n:Int))) d=some n:=by
 simp only[Dy];rw[if_pos AA,Nr]
attribute [go_sem ↓] A4f
attribute [go_sem] Adl Ax Ze
