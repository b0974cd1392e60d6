/- Walks: which statements are shaped. -/
import Derived.Test.YtcoeikinocflnaaGreatDoorPg
set_option linter.all false
namespace Go.Proofs.YtcoeikinocflnaaGreatDoor.KM
open Go
set_option maxHeartbeats 2000000 in
theorem Aqx(s:Sp)(hi:∀ x∈s.idx,Fn TT PT 213 [.agg x.row] (.bool (Fr x)))(he:Fn TT PT 213 [.agg s.ex.row] (.bool (Fr s.ex)))(hel:s.ex.l.length<=1000000000)(hil:s.idx.length<=1000000000)(hbl:s.body.length<=1000000000)(hsl:s.els.length<=1000000000)
  (hb:Fn TT PT 135 [SL s.bz s.bt (s.body.map Sp.row)] (.bool (H5 s.body))) (hs:Fn TT PT 135 [SL s.ez s.et (s.els.map Sp.row)] (.bool (H5 s.els))):Fn TT PT 178 [.agg s.row] (.bool (Lg s)):=by
 obtain⟨op,line,nm,arg,iz,it,idx,ex,bz,bt,body,ez,et,els⟩:=s;have hr:=Np ⟨op,line,nm,arg,iz,it,idx,ex,bz,bt,body,ez,et,els⟩;have hR:=Auf ⟨op,line,nm,arg,iz,it,idx,ex,bz,bt,body,ez,et,els⟩;generalize Lg ⟨op,line,nm,arg,iz,it,idx,ex,bz,bt,body,ez,et,els⟩=R at hR ⊢;have hbk:=Aqv ex hel;simp only at hr hR hi he hb hs hil hbl hsl hel;rw[hr];clear hr;have hxr:=Ax ex;rw[hxr]at he hbk ⊢;unfold Aec at hR;simp only at hR;generalize ex.op=xo at he hbk ⊢;generalize ex.n=xn at he hbk ⊢;generalize ex.nm=xm at he hbk ⊢;generalize ex.z=xz at he hbk ⊢;generalize ex.t=xt at he hbk ⊢;generalize ex.l=xl at he hbk hel ⊢;clear hxr;simp only[Ox,Es];obtain⟨A3,h3⟩:∃ b,b=(if E5 op then nm==[] else Bv nm):=⟨_,rfl⟩;obtain⟨A4,h4⟩:∃ b,b=(if op=15 then Bv arg else arg==[]):=⟨_,rfl⟩;obtain⟨A5,h5⟩:∃ b,b=decide (idx.length<=1):=⟨_,rfl⟩;obtain⟨A6,h6⟩:∃ b,b=(op==1||idx.isEmpty):=⟨_,rfl⟩;obtain⟨A7,h7⟩:∃ b,b=idx.all Fr:=⟨_,rfl⟩;obtain⟨A8,h8⟩:∃ b,b=(if Dl op then Fr ex else Ya ex):=⟨_,rfl⟩;obtain⟨A9,h9⟩:∃ b,b=(Bq op||body.isEmpty):=⟨_,rfl⟩;obtain⟨A10,h10⟩:∃ b,b=(op==2||els.isEmpty):=⟨_,rfl⟩;rw[<-h3,<-h4,<-h5,<-h6,<-h7,<-h8,<-h9,<-h10]at hR;obtain⟨B1,hB1⟩:∃ b,b=H5 body:=⟨_,rfl⟩;obtain⟨B2,hB2⟩:∃ b,b=H5 els:=⟨_,rfl⟩;rw[<-hB1]at hR hb;rw[<-hB2]at hR hs;have hlen1:(idx.map Xp.row).length=idx.length:=Bl ..;have hlen2:(body.map Sp.row).length=body.length:=Bl ..;have hlen3:(els.map Sp.row).length=els.length:=Bl ..;have hna:=O9 nm;have har:=O9 arg;refine Bn T178 rfl ?_;refine El (fun e σ=>e=[(1,.ptr 0 0 0)]/\σ=[.row [.int .i64 op,.int .i64 line,.str nm,.str arg,SL iz it (idx.map Xp.row),.int .i64 xo,.int .i64 xn,.str xm,SL xz xt (xl.map Xp.row),SL bz bt (body.map Sp.row),SL ez et (els.map Sp.row)] 105 0 0]) (fun k' hk=>?_) ?_
 ·simp only[go_sem];exact hk _ _ ⟨rfl,rfl⟩
 rintro e σ ⟨rfl,rfl⟩;refine El (fun e σ=>(e=[(1,.ptr 0 0 0)]/\σ=[.row [.int .i64 op,.int .i64 line,.str nm,.str arg,SL iz it (idx.map Xp.row),.int .i64 xo,.int .i64 xn,.str xm,SL xz xt (xl.map Xp.row),SL bz bt (body.map Sp.row),SL ez et (els.map Sp.row)] 105 0 0])/\(1<=op/\op<=15)/\R=((A3&&(A4&&(A5&&(A6&&(A7&&(A8&&(A9&&(A10))))))))&&(B1&&B2))) (fun k' hk=>?_) ?_
 ·by_cases g1:op<1
  ·rw[decide_eq_false (show ¬ 1<=op by omega)]at hR;subst hR;have f1:(op<1)=True:=eq_true g1;simp only[go_sem,f1];exact An rfl rfl
  have f1:(op<1)=False:=eq_false g1;rw[decide_eq_true (show 1<=op by omega)]at hR;by_cases g2:15<op
  ·rw[decide_eq_false (show ¬ op<=15 by omega)]at hR;subst hR;have f2:((15:Int)<op)=True:=eq_true g2;simp only[go_sem,f1,f2,gt_iff_lt];exact An rfl rfl
  have f2:((15:Int)<op)=False:=eq_false g2;rw[decide_eq_true (show op<=15 by omega)]at hR;simp only[go_sem,f1,f2,gt_iff_lt];exact hk _ _ ⟨⟨rfl,rfl⟩,⟨by omega,by omega⟩,by rw[hR];rfl⟩
 clear hR;rintro e σ ⟨⟨rfl,rfl⟩,hop,hR⟩;refine El (fun e σ=>e=[(1,.ptr 0 0 0),(3,.bool (E5 op))]/\σ=[.row [.int .i64 op,.int .i64 line,.str nm,.str arg,SL iz it (idx.map Xp.row),.int .i64 xo,.int .i64 xn,.str xm,SL xz xt (xl.map Xp.row),SL bz bt (body.map Sp.row),SL ez et (els.map Sp.row)] 105 0 0]) (fun k' hk=>?_) ?_
 ·unfold E5 at hk;cases q2:(op==2);rotate_left
  ·simp only[go_sem,q2];exact hk _ _ ⟨by rw[q2];rfl,rfl⟩
  cases q3:(op==3);rotate_left
  ·simp only[go_sem,q2,q3];exact hk _ _ ⟨by rw[q2,q3];rfl,rfl⟩
  cases q7:(op==7);rotate_left
  ·simp only[go_sem,q2,q3,q7];exact hk _ _ ⟨by rw[q2,q3,q7];rfl,rfl⟩
  cases q8:(op==8)
  ·simp only[go_sem,q2,q3,q7,q8];exact hk _ _ ⟨by rw[q2,q3,q7,q8];rfl,rfl⟩
  ·simp only[go_sem,q2,q3,q7,q8];exact hk _ _ ⟨by rw[q2,q3,q7,q8];rfl,rfl⟩
 rintro e σ ⟨rfl,rfl⟩;refine El (fun e σ=>(e=[(1,.ptr 0 0 0)]/\σ=[.row [.int .i64 op,.int .i64 line,.str nm,.str arg,SL iz it (idx.map Xp.row),.int .i64 xo,.int .i64 xn,.str xm,SL xz xt (xl.map Xp.row),SL bz bt (body.map Sp.row),SL ez et (els.map Sp.row)] 105 0 0])/\R=((A4&&(A5&&(A6&&(A7&&(A8&&(A9&&(A10)))))))&&(B1&&B2))) (fun k' hk=>?_) ?_
 ·cases hn:E5 op
  ·rw[hn,if_neg (by simp)]at h3;rw[<-h3]at hna;cases A3
   ·subst hR;simp only[go_sem,Av,Ap];refine Ad hna rfl ?_;simp only[go_sem,Av,Ap];exact An rfl rfl
   ·simp only[go_sem,Av,Ap];refine Ad hna rfl ?_;simp only[go_sem,Av,Ap];exact hk _ _ ⟨⟨rfl,rfl⟩,by rw[hR];rfl⟩
  ·rw[hn,if_pos rfl]at h3;have h3:=h3.symm;cases A3
   ·subst hR;simp only[go_sem,Av,Ap,h3];exact An rfl rfl
   ·simp only[go_sem,Av,Ap,h3];exact hk _ _ ⟨⟨rfl,rfl⟩,by rw[hR];rfl⟩
 clear hR;rintro e σ ⟨⟨rfl,rfl⟩,hR⟩;refine El (fun e σ=>(e=[(1,.ptr 0 0 0)]/\σ=[.row [.int .i64 op,.int .i64 line,.str nm,.str arg,SL iz it (idx.map Xp.row),.int .i64 xo,.int .i64 xn,.str xm,SL xz xt (xl.map Xp.row),SL bz bt (body.map Sp.row),SL ez et (els.map Sp.row)] 105 0 0])/\R=((A5&&(A6&&(A7&&(A8&&(A9&&(A10))))))&&(B1&&B2))) (fun k' hk=>?_) ?_
 ·by_cases h15:op=15
  ·rw[if_pos h15]at h4;rw[<-h4]at har;have q15:(op==15)=true:=by simp[h15]
   cases A4
   ·subst hR;simp only[go_sem,Av,Ap,q15,bne];refine Ad har rfl ?_;simp only[go_sem,Av,Ap];exact An rfl rfl
   ·simp only[go_sem,Av,Ap,q15,bne];refine Ad har rfl ?_;simp only[go_sem,Av,Ap,q15,bne];exact hk _ _ ⟨⟨rfl,rfl⟩,by rw[hR];rfl⟩
  ·rw[if_neg h15]at h4;have h4:=h4.symm;have q15:(op==15)=false:=by simp[h15]
   cases A4
   ·subst hR;simp only[go_sem,Av,Ap,h4,q15,bne];exact An rfl rfl
   ·simp only[go_sem,Av,Ap,h4,q15,bne];exact hk _ _ ⟨⟨rfl,rfl⟩,by rw[hR];rfl⟩
 clear hR;rintro e σ ⟨⟨rfl,rfl⟩,hR⟩;refine El (fun e σ=>(e=[(1,.ptr 0 0 0)]/\σ=[.row [.int .i64 op,.int .i64 line,.str nm,.str arg,SL iz it (idx.map Xp.row),.int .i64 xo,.int .i64 xn,.str xm,SL xz xt (xl.map Xp.row),SL bz bt (body.map Sp.row),SL ez et (els.map Sp.row)] 105 0 0])/\R=((A8&&(A9&&(A10)))&&(B1&&B2))) (fun k' hk=>?_) ?_
 ·have hN:idx.length=0\/idx.length=1\/2<=idx.length:=by omega
  rcases hN with h | h | h
  ·have hnil:idx=[]:=V0.1 h;have f1:((1:Int)<(idx.length:Int))=False:=eq_false (by omega);have f2:((0:Int)<(idx.length:Int))=False:=eq_false (by omega);have f3:((idx.length:Int)==1)=false:=by simp[h]
   rw[h5,h6,h7]at hR
   have hR:R=((A8&&(A9&&A10))&&(B1&&B2)):=by rw[hR,hnil];cases(op==1)<;>rfl
   cases q1:(op==1)
   ·simp only[go_sem,Av,Ap,q1,bne,hlen1,f1,f2,f3,gt_iff_lt];exact hk _ _ ⟨⟨rfl,rfl⟩,hR⟩
   ·simp only[go_sem,Av,Ap,q1,bne,hlen1,f1,f2,f3,gt_iff_lt];exact hk _ _ ⟨⟨rfl,rfl⟩,hR⟩
  ·obtain⟨a,hnil⟩:=Zs.1 h;have f1:((1:Int)<(idx.length:Int))=False:=eq_false (by omega);have f2:((0:Int)<(idx.length:Int))=True:=eq_true (by omega);have f3:((idx.length:Int)==1)=true:=by simp[h]
   have hxr:=Ax a;have has:=C7 a;have hf:=hi a (by rw[hnil];exact Ey.2 rfl);have ha':(idx.map Xp.row)[0]?=some [.int .i64 a.op,.int .i64 a.n,.str a.nm,SL a.z a.t (a.l.map Xp.row)]:=by rw[hnil,<-hxr];rfl
   rw[hxr]at hf has;have h5:A5=true:=by rw[h5,hnil];rfl
   have h7:A7=Fr a:=by rw[h7,hnil,Au,A1,S8]
   have h6:A6=(op==1):=by rw[h6,hnil];simp
   rw[h5,h6,h7]at hR;cases q1:(op==1)
   ·rw[q1]at hR;subst hR;simp only[go_sem,Av,Ap,q1,bne,hlen1,f1,f2,f3,gt_iff_lt];exact An rfl rfl
   rw[q1]at hR;cases hab:Fr a
   ·rw[hab]at hR hf;subst hR;simp only[go_sem,Av,Ap,q1,bne,hlen1,f1,f2,f3,gt_iff_lt,ha'];refine Ad hf (by simp only[go_sem]) ?_;simp only[go_sem,Av,Ap];exact An rfl rfl
   ·rw[hab]at hR hf;simp only[go_sem,Av,Ap,q1,bne,hlen1,f1,f2,f3,gt_iff_lt,ha'];refine Ad hf (by simp only[go_sem]) ?_;simp only[go_sem,Av,Ap];exact hk _ _ ⟨⟨rfl,rfl⟩,hR⟩
  ·have f1:((1:Int)<(idx.length:Int))=True:=eq_true (by omega);rw[show A5=false from by rw[h5];exact decide_eq_false (by omega)]at hR;subst hR;simp only[go_sem,Av,Ap,hlen1,f1,gt_iff_lt];exact An rfl rfl
 clear hR;rintro e σ ⟨⟨rfl,rfl⟩,hR⟩;refine El (fun e σ=>e=[(1,.ptr 0 0 0),(4,.bool (Dl op))]/\σ=[.row [.int .i64 op,.int .i64 line,.str nm,.str arg,SL iz it (idx.map Xp.row),.int .i64 xo,.int .i64 xn,.str xm,SL xz xt (xl.map Xp.row),SL bz bt (body.map Sp.row),SL ez et (els.map Sp.row)] 105 0 0]) (fun k' hk=>?_) ?_
 ·unfold Dl at hk;cases q1:(op==1);rotate_left
  ·simp only[go_sem,q1];exact hk _ _ ⟨by rw[q1];rfl,rfl⟩
  cases q2:(op==2);rotate_left
  ·simp only[go_sem,q1,q2];exact hk _ _ ⟨by rw[q1,q2];rfl,rfl⟩
  cases q3:(op==3);rotate_left
  ·simp only[go_sem,q1,q2,q3];exact hk _ _ ⟨by rw[q1,q2,q3];rfl,rfl⟩
  cases q14:(op==14)
  ·simp only[go_sem,q1,q2,q3,q14];exact hk _ _ ⟨by rw[q1,q2,q3,q14];rfl,rfl⟩
  ·simp only[go_sem,q1,q2,q3,q14];exact hk _ _ ⟨by rw[q1,q2,q3,q14];rfl,rfl⟩
 rintro e σ ⟨rfl,rfl⟩;refine El (fun e σ=>(e=[(1,.ptr 0 0 0)]/\σ=[.row [.int .i64 op,.int .i64 line,.str nm,.str arg,SL iz it (idx.map Xp.row),.int .i64 xo,.int .i64 xn,.str xm,SL xz xt (xl.map Xp.row),SL bz bt (body.map Sp.row),SL ez et (els.map Sp.row)] 105 0 0])/\R=((A9&&(A10))&&(B1&&B2))) (fun k' hk=>?_) ?_
 ·cases hn:Dl op
  ·rw[hn,if_neg (by simp)]at h8;rw[<-h8]at hbk;cases A8
   ·subst hR;simp only[go_sem,Av,Ap];refine Ad hbk (by simp only[go_sem]) ?_;simp only[go_sem,Av,Ap];exact An rfl rfl
   ·simp only[go_sem,Av,Ap];refine Ad hbk (by simp only[go_sem]) ?_;simp only[go_sem,Av,Ap];exact hk _ _ ⟨⟨rfl,rfl⟩,by rw[hR];rfl⟩
  ·rw[hn,if_pos rfl]at h8;rw[<-h8]at he;cases A8
   ·subst hR;simp only[go_sem,Av,Ap];refine Ad he (by simp only[go_sem]) ?_;simp only[go_sem,Av,Ap];exact An rfl rfl
   ·simp only[go_sem,Av,Ap];refine Ad he (by simp only[go_sem]) ?_;simp only[go_sem,Av,Ap];exact hk _ _ ⟨⟨rfl,rfl⟩,by rw[hR];rfl⟩
 clear hR;rintro e σ ⟨⟨rfl,rfl⟩,hR⟩;refine El (fun e σ=>e=[(1,.ptr 0 0 0),(5,.bool (Bq op))]/\σ=[.row [.int .i64 op,.int .i64 line,.str nm,.str arg,SL iz it (idx.map Xp.row),.int .i64 xo,.int .i64 xn,.str xm,SL xz xt (xl.map Xp.row),SL bz bt (body.map Sp.row),SL ez et (els.map Sp.row)] 105 0 0]) (fun k' hk=>?_) ?_
 ·unfold Bq at hk;by_cases g1:2<=op
  ·have f1:((2:Int)<=op)=True:=eq_true g1;rw[decide_eq_true g1]at hk;by_cases g2:op<=8
   ·have f2:(op<=8)=True:=eq_true g2;rw[decide_eq_true g2]at hk;simp only[go_sem,f1,f2,ge_iff_le];exact hk _ _ ⟨rfl,rfl⟩
   ·have f2:(op<=8)=False:=eq_false g2;rw[decide_eq_false g2]at hk;simp only[go_sem,f1,f2,ge_iff_le];exact hk _ _ ⟨rfl,rfl⟩
  ·have f1:((2:Int)<=op)=False:=eq_false g1;rw[decide_eq_false g1]at hk;simp only[go_sem,f1,ge_iff_le];exact hk _ _ ⟨rfl,rfl⟩
 rintro e σ ⟨rfl,rfl⟩;refine El (fun e σ=>(e=[(1,.ptr 0 0 0)]/\σ=[.row [.int .i64 op,.int .i64 line,.str nm,.str arg,SL iz it (idx.map Xp.row),.int .i64 xo,.int .i64 xn,.str xm,SL xz xt (xl.map Xp.row),SL bz bt (body.map Sp.row),SL ez et (els.map Sp.row)] 105 0 0])/\R=(B1&&B2)) (fun k' hk=>?_) ?_
 ·have e1:((0:Int)<(body.length:Int))=(body.isEmpty=false):=by
   cases body with
   | nil=>simp
   | cons x r=>simp
  have e2:((0:Int)<(els.length:Int))=(els.isEmpty=false):=by
   cases els with
   | nil=>simp
   | cons x r=>simp
  rw[h9,h10]at hR
  cases hn:Bq op<;>cases hbe:body.isEmpty
  ·rw[hn,hbe]at hR;subst hR;simp only[go_sem,Av,Ap,hlen2,e1,hbe,gt_iff_lt,decide_true];exact An rfl rfl
  all_goals
   rw[hn,hbe]at hR
   cases q2:(op==2)<;>cases hee:els.isEmpty
   ·rw[q2,hee]at hR;subst hR;simp only[go_sem,Av,Ap,hlen2,hlen3,e1,e2,hbe,hee,q2,bne,gt_iff_lt,decide_true];exact An rfl rfl
   all_goals
    rw[q2,hee]at hR;simp only[go_sem,Av,Ap,hlen2,hlen3,e1,e2,hbe,hee,q2,bne,gt_iff_lt,decide_true];exact hk _ _ ⟨⟨rfl,rfl⟩,by rw[hR];rfl⟩
 clear hR;rintro e σ ⟨⟨rfl,rfl⟩,hR⟩;cases B1
 ·subst hR;simp only[go_sem];refine Ad hb (by simp only[go_sem]) ?_;simp only[go_sem];exact An rfl rfl
 ·cases B2
  ·subst hR;simp only[go_sem];refine Ad hb (by simp only[go_sem]) ?_;simp only[go_sem];refine Ad hs (by simp only[go_sem]) ?_;simp only[go_sem];exact An rfl rfl
  ·subst hR;simp only[go_sem];refine Ad hb (by simp only[go_sem]) ?_;simp only[go_sem];refine Ad hs (by simp only[go_sem]) ?_;simp only[go_sem];exact An rfl rfl
theorem Aaz(z:Bool)(t:Nat)(l:List Sp)(hl:l.length<=1000000000)(ih:∀ y∈l,Fn TT PT 178 [.agg y.row] (.bool (Lg y))):Fn TT PT 135 [SL z t (l.map Sp.row)] (.bool (H5 l)):=by
 have hlen:(l.map Sp.row).length=l.length:=Bl ..;rw[Ahn];obtain⟨R,hR⟩:∃ b,b=l.all Lg:=⟨_,rfl⟩;rw[<-hR];refine Bn T135 rfl ?_;simp only[go_sem];refine B9 (α:=Nat) (fun i=>l.length - i) (fun i=>[(0,SL z t (l.map Sp.row)),(3,.int .i64 (i:Int))]) (fun _=>[]) (fun i=>i<=l.length/\l.all Lg=(l.drop i).all Lg) ?_ 0 ⟨A2 _,rfl⟩;rintro i ⟨hi,hinv⟩ jh;refine Ca (by delta lp135_0;exact rfl) ?_;by_cases hc:i<l.length
 ·have f1:((i:Int)<(l.length:Int))=True:=eq_true (by omega);have hin:=Bg (show i<9223372036854775807 by omega);obtain⟨a,ha⟩:∃ a,l[i]?=some a:=⟨_,A0 hc⟩;have has:=Fi a;have hf:=ih a (Gq ha);have ha':(l.map Sp.row)[i]?=some a.row:=by rw[Bb,ha,Ha]
  have hda:l.drop i=a::l.drop (i+1):=by rw[Je hc,(Ar.1 ha).2]
  have hrl:=Lp a;rw[hda,Au]at hinv;generalize a.row=ar at ha' hf has hrl;have htk:ar.take 11=ar:=Jf (by omega);cases hab:Lg a
  ·rw[hab]at hf hinv;rw[hinv]at hR;subst hR;simp only[go_sem,hlen,f1,ha',hrl,htk];refine Ad hf (by simp only[go_sem,has]) ?_;simp only[go_sem];exact An rfl rfl
  ·rw[hab]at hf hinv;simp only[go_sem,hlen,f1,ha',hrl,htk];refine Ad hf (by simp only[go_sem,has]) ?_;simp only[go_sem,hin];exact Bi (jh (i+1) (by omega) ⟨hc,by simpa using hinv⟩) rfl
 ·have f1:((i:Int)<(l.length:Int))=False:=eq_false (by omega);rw[hinv,Fk (by omega)]at hR;subst hR;simp only[go_sem,hlen,f1];exact An rfl rfl
theorem Ack:∀ (N:Nat) (s:Sp),Ct s.row<=N->N<=1000000000->Fn TT PT 178 [.agg s.row] (.bool (Lg s))
 | 0,s,h,_=>by rw[Ju]at h;omega
 | N+1,s,h,hN=>by
  have h1:=Ju s;have h2:=Ib (f:=Xp.row) (fun x=>by rw[Fg];omega) s.idx;have h3:=Ib (f:=Sp.row) (fun x=>by rw[Ju];omega) s.body;have h4:=Ib (f:=Sp.row) (fun x=>by rw[Ju];omega) s.els;have h5:=Ib (f:=Xp.row) (fun x=>by rw[Fg];omega) s.ex.l;have h6:=Fg s.ex;refine Aqx s (fun x hx=>Yb N x ?_ (by omega)) (Yb N s.ex (by omega) (by omega)) (by omega) (by omega) (by omega) (by omega) (Aaz _ _ _ (by omega) fun y hy=>Ack N y ?_ (by omega)) (Aaz _ _ _ (by omega) fun y hy=>Ack N y ?_ (by omega))
  ·have:=Hf (f:=Xp.row) hx;omega
  ·have:=Hf (f:=Sp.row) hy;omega
  ·have:=Hf (f:=Sp.row) hy;omega
set_option maxHeartbeats 1000000 in
theorem Ax3(d:Dp):Fn TT PT 133 [.agg d.row] (.bool (P8 d)):=by
 obtain⟨kind,line,nm,size,init,on⟩:=d;obtain⟨R,hR⟩:∃ b,b=P8 ⟨kind,line,nm,size,init,on⟩:=⟨_,rfl⟩;rw[<-hR];unfold P8 at hR;simp only at hR;have hna:=O9 nm;have hon:=O9 on;refine Bn T133 rfl ?_;unfold Dp.row;simp only;obtain⟨A3,h3⟩:∃ b,b=Bv nm:=⟨_,rfl⟩;obtain⟨A6,h6⟩:∃ b,b=(if kind=5 then Bv on else on==[]):=⟨_,rfl⟩;obtain⟨A7,h7⟩:∃ b,b=(decide (-9223372036854775808<init)&&(init==0||(kind==1||kind==2))):=⟨_,rfl⟩;rw[<-h3,<-h6,<-h7]at hR;rw[<-h3]at hna;refine El (fun e σ=>e=[(1,.ptr 0 0 0)]/\σ=[.row [.int .i64 kind,.int .i64 line,.str nm,.int .i64 size,.int .i64 init,.str on] 87 0 0]) (fun k' hk=>?_) ?_
 ·simp only[go_sem];exact hk _ _ ⟨rfl,rfl⟩
 rintro e σ ⟨rfl,rfl⟩;refine El (fun e σ=>(e=[(1,.ptr 0 0 0)]/\σ=[.row [.int .i64 kind,.int .i64 line,.str nm,.int .i64 size,.int .i64 init,.str on] 87 0 0])/\R=(A6&&A7)) (fun k' hk=>?_) ?_
 ·by_cases g1:kind<1
  ·rw[decide_eq_false (show ¬ 1<=kind by omega)]at hR;subst hR;have f1:(kind<1)=True:=eq_true g1;simp only[go_sem,f1];exact An rfl rfl
  have f1:(kind<1)=False:=eq_false g1;rw[decide_eq_true (show 1<=kind by omega)]at hR;by_cases g2:6<kind
  ·rw[decide_eq_false (show ¬ kind<=6 by omega)]at hR;subst hR;have f2:((6:Int)<kind)=True:=eq_true g2;simp only[go_sem,f1,f2,gt_iff_lt];exact An rfl rfl
  have f2:((6:Int)<kind)=False:=eq_false g2;rw[decide_eq_true (show kind<=6 by omega)]at hR;cases A3
  ·subst hR;simp only[go_sem,f1,f2,gt_iff_lt];refine Ad hna rfl ?_;simp only[go_sem,Av];exact An rfl rfl
  by_cases g4:size<0
  ·rw[decide_eq_false (show ¬ 0<=size by omega)]at hR;subst hR;have f4:(size<0)=True:=eq_true g4;simp only[go_sem,f1,f2,gt_iff_lt];refine Ad hna rfl ?_;simp only[go_sem,f4,Ap];exact An rfl rfl
  have f4:(size<0)=False:=eq_false g4;rw[decide_eq_true (show 0<=size by omega)]at hR
  cases q1:(kind==1)<;>cases q5:(size==0)
  ·rw[q1,q5]at hR;subst hR;simp only[go_sem,f1,f2,gt_iff_lt];refine Ad hna rfl ?_;simp only[go_sem,f4,Ap,Av,bne,q1,q5];exact An rfl rfl
  all_goals
   rw[q1,q5]at hR;simp only[go_sem,f1,f2,gt_iff_lt];refine Ad hna rfl ?_;simp only[go_sem,f4,Ap,Av,bne,q1,q5];exact hk _ _ ⟨⟨rfl,rfl⟩,by rw[hR];rfl⟩
 clear hR;rintro e σ ⟨⟨rfl,rfl⟩,hR⟩;refine El (fun e σ=>(e=[(1,.ptr 0 0 0)]/\σ=[.row [.int .i64 kind,.int .i64 line,.str nm,.int .i64 size,.int .i64 init,.str on] 87 0 0])/\R=A7) (fun k' hk=>?_) ?_
 ·by_cases h5:kind=5
  ·rw[if_pos h5]at h6;have q5:(kind==5)=true:=by simp[h5]
   rw[<-h6]at hon;cases A6
   ·subst hR;simp only[go_sem,q5,bne,Ap,Av];refine Ad hon rfl ?_;simp only[go_sem,Av];exact An rfl rfl
   ·simp only[go_sem,q5,bne,Ap,Av];refine Ad hon rfl ?_;simp only[go_sem,q5,bne,Ap,Av];exact hk _ _ ⟨⟨rfl,rfl⟩,by rw[hR];rfl⟩
  ·rw[if_neg h5]at h6;have h6:=h6.symm;have q5:(kind==5)=false:=by simp[h5]
   cases A6
   ·subst hR;simp only[go_sem,q5,h6,bne,Ap,Av];exact An rfl rfl
   ·simp only[go_sem,q5,h6,bne,Ap,Av];exact hk _ _ ⟨⟨rfl,rfl⟩,by rw[hR];rfl⟩
 clear hR;rintro e σ ⟨⟨rfl,rfl⟩,hR⟩;rw[h7]at hR;by_cases g7 : -9223372036854775808<init
 ·have f7:((-9223372036854775808:Int)<init)=True:=eq_true g7;rw[decide_eq_true g7]at hR
  cases q0:(init==0)<;>cases q1:(kind==1)<;>cases q2:(kind==2)
  all_goals
   rw[q0,q1,q2]at hR;subst hR;simp only[go_sem,f7,q0,q1,q2,gt_iff_lt];exact An rfl rfl
 ·have f7:((-9223372036854775808:Int)<init)=False:=eq_false g7;rw[decide_eq_false g7]at hR;subst hR;simp only[go_sem,f7,gt_iff_lt];exact An rfl rfl
