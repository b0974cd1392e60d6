/- Walks: the maker of programs: statements. Printed by gen_il.py. -/
import Derived.Test.YtcoeikinocflnaaGreatDoorIj
set_option linter.all false
namespace Go.Proofs.YtcoeikinocflnaaGreatDoor.KM
open Go
theorem Fu{l:List UInt8}(h:(Bv l&&decide (l.length<=4))=true):Ip l:=by
 simp only[Af,decide_eq_true_eq]at h;exact h
def E8(nm:List UInt8):Xp:=⟨2,0,nm,true,0,[]⟩
def Ex(n:Int):Xp:=⟨1,n,[],true,0,[]⟩
def Jb(op:Int)(nm:List UInt8)(n:Int):Xp:=⟨op,0,[],true,1,[E8 nm,Ex n]⟩
theorem Ame(op:Int)(nm:List UInt8)(n:Int):Fn TT PT 129 [.int .i64 op,.agg [.int .i64 2,.int .i64 0,.str nm,.nils],.agg [.int .i64 1,.int .i64 n,.str [],.nils]] (.agg [.int .i64 op,.int .i64 0,.str [],.lst 1 [[.int .i64 2,.int .i64 0,.str nm,.nils],[.int .i64 1,.int .i64 n,.str [],.nils]]]):=by
 have h:=Aja op (E8 nm) (Ex n);rw[Ax ⟨op,0,[],true,1,[E8 nm,Ex n]⟩]at h;simp only[Ba,Bs]at h;rw[Ax (E8 nm),Ax (Ex n)]at h;exact h
theorem Acm(op:Int)(nm:List UInt8)(n:Int):(Jb op nm n).l.map Xp.row=[[.int .i64 2,.int .i64 0,.str nm,.nils],[.int .i64 1,.int .i64 n,.str [],.nils]]:=by
 unfold Jb;simp only[Ba,Bs];rw[Ax (E8 nm),Ax (Ex n)];rfl
theorem A1v{nm:List UInt8}(h:Ip nm)(d:Nat):MX d (E8 nm):=by
 refine⟨.name h.1,?_,?_⟩
 ·rw[show(E8 nm).txt=nm by unfold E8;rw[Ed];rfl];have:=Y0 d;have:=h.2;omega
 ·unfold E8;rw[Fg];have:=Yj d;have:=h.2;simp[Ck];omega
theorem Alt{op:Int}(ho:6<=op/\op<=18):MX 1 (Jb op [98] 2)/\MX 1 (Jb op [98] 1):=by
 have key:∀ n:Int,(n=1\/n=2)->MX 1 (Jb op [98] n):=by
  intro n hn;have hx:ShE (E8 [98]):=.name (by kernel_rfl);have hy:ShE (Ex n):=.num (by omega);have t1:(E8 [98]).txt=[98]:=by unfold E8;rw[Ed];rfl
  have t2:(Ex n).txt.length=1:=by
   rcases hn with rfl | rfl<;>(unfold Ex;rw[Ed];rfl)
  refine⟨.bin ho hx hy,?_,?_⟩
  ·unfold Jb;rw[Ed];have h2:=(Kz ((E8 [98]).op,(E8 [98]).txt) (F6 op)).2;have h2':=(Kz ((Ex n).op,(Ex n).txt) (Bj op+1)).2;simp only at h2 h2';have h3:(Cd op).length<=2:=Ajc _
   have h0:Di op 0 [] [((E8 [98]).op,(E8 [98]).txt),((Ex n).op,(Ex n).txt)]=Dg ((E8 [98]).op,(E8 [98]).txt) (F6 op)++32::(Cd op++32::Dg ((Ex n).op,(Ex n).txt) (Bj op+1)):=by
    unfold Di;rw[if_neg (by omega),if_neg (by omega)]
   have e1:EB 1=54:=rfl;have t3:(E8 [98]).txt.length=1:=by rw[t1];rfl
   simp only[Ba,Bs,h0,Ao,Am];omega
  ·have x1:J4 1=36:=rfl;rw[Fg];unfold Jb;simp only[Ba,Bs,Ck,Cx];rw[Fg,Fg,x1];unfold E8 Ex;simp[Ck]
 exact⟨key 2 (.inr rfl),key 1 (.inl rfl)⟩
def Jc(nm:List UInt8)(x:Xp):Sp:=⟨1,0,nm,[],true,0,[],x,true,0,[],true,0,[]⟩
theorem Yk(nm:List UInt8)(x:Xp):(Jc nm x).row=[.int .i64 1,.int .i64 0,.str nm,.str [],.nils,.int .i64 x.op,.int .i64 x.n,.str x.nm,SL x.z x.t (x.l.map Xp.row),.nils,.nils]:=by
 rw[Eg];rfl
theorem Acn{k:Nat}{nm:List UInt8}{x:Xp}(hn:Ip nm)(hx:MX 1 x)(z:Bool)(t:Nat)(z':Bool)(t':Nat):SM k ⟨1,0,nm,[],true,0,[],x,z,t,[],z',t',[]⟩:=
 G0 (by simp) (by simp) (fun h=>absurd rfl h) (by simp) (.inl ⟨rfl,hx⟩) (.inr ⟨rfl,hn⟩) (.inl ⟨by simp,rfl⟩) (fun _=>rfl) (fun _=>rfl) (fun h=>by have h:false=true:=h;cases h)
theorem Adi{k:Nat}{nm:List UInt8}{x:Xp}(hn:Ip nm)(hx:MX 1 x):SM k (Jc nm x):=
 G0 (by simp[Jc]) (by simp[Jc]) (fun h=>absurd rfl h) (by simp[Jc]) (.inl ⟨rfl,hx⟩) (.inr ⟨rfl,hn⟩) (.inl ⟨by simp[Jc],rfl⟩) (fun _=>rfl) (fun _=>rfl) (fun h=>by have h:false=true:=h;cases h)
def Jd(op:Int)(nm:List UInt8):Sp:=⟨op,0,nm,[],true,0,[],Xp.zero,true,0,[],true,0,[]⟩
theorem Rq(op:Int)(nm:List UInt8):(Jd op nm).row=[.int .i64 op,.int .i64 0,.str nm,.str [],.nils,.int .i64 0,.int .i64 0,.str [],.nils,.nils,.nils]:=by
 rw[Eg];rfl
theorem Ve{k:Nat}{op:Int}{nm:List UInt8}(ho:op=9\/op=10\/op=11\/op=12\/op=13)(hn:Ip nm):SM k (Jd op nm):=by
 rcases ho with rfl | rfl | rfl | rfl | rfl
 all_goals exact G0 (by simp[Jd]) (by simp[Jd]) (fun _=>rfl) (by simp[Jd]) (.inr ⟨rfl,rfl⟩) (.inr ⟨rfl,hn⟩) (.inl ⟨by simp[Jd],rfl⟩) (fun _=>rfl) (fun _=>rfl) (fun h=>by have h:false=true:=h;cases h)
set_option maxRecDepth 20000 in
set_option maxHeartbeats 16000000 in
theorem Afp{k:Nat}(hk:k<=20)(ih:∀ j,j<k->Vt j):MSt k:=by
 intro σ m b uH H h hH;have hm0:=H3 h
 suffices hh:∃ v σ',Th TT PT 92 [.ptr m 0 0,.int .i64 (k:Int)] σ v σ'/\((∃ x:Sp,v=.agg x.row/\SM k x)/\(∃ uH',MKr σ' m b uH' H)/\FW m σ σ') from hh
 refine Arg T92 rfl ?_;have e3:k≠0->IntKind.i64.wrap ((k:Int) - 1)=((k - 1:Nat):Int):=fun h0=>by rw[Ef (by omega)];omega
 refine Gd (fun e s=>e=[(0,.ptr m 0 0),(1,.int .i64 (k:Int)),(4,.ptr σ.length 0 0)]/\MW σ s m b H) ?_ ?_
 ·intro k' hk';simp only[go_sem];obtain⟨a1,a2⟩:=X0 h [.row [.int .i64 0,.int .i64 0,.str [],.str [],.nils,.int .i64 0,.int .i64 0,.str [],.nils,.nils,.nils] 105 0 0] (Gv h.cl rfl);exact hk' _ _ ⟨rfl,⟨_,a1⟩,a2,by simp,fun hm=>by rw[Fx a1,<-Fx h]at hm;exact Yh (τ:=σ) h (Ah _) hm,hm0⟩
 clear h uH;rintro e s ⟨rfl,h1⟩;refine Gd (fun e s=>e=[(0,.ptr m 0 0),(1,.int .i64 (k:Int)),(4,.ptr σ.length 0 0)]/\MW σ s m b H) ?_ ?_
 ·intro k' hk';obtain⟨th,left,se,tx,ao,lp,vH,m1,ho⟩:=Hl h1;simp only[go_sem,m1];exact hk' _ _ ⟨rfl,(ho _ _ _ _ _ _).1⟩
 clear h1 s;rintro e s ⟨rfl,h1⟩;refine Gd (fun e s=>∃ r:Nat,r<18/\e=[(0,.ptr m 0 0),(1,.int .i64 (k:Int)),(4,.ptr σ.length 0 0),(5,.int .i64 (r:Int))]/\MW σ s m b H) ?_ ?_
 ·intro k' hk';obtain⟨th,left,se,tx,ao,lp,vH,m1,-⟩:=Hl h1;obtain⟨r,s2,q,hr,h2,w2,mm⟩:=Rg h1 18;simp only[go_sem,m1];refine Ac q ?_;simp only[go_sem];exact hk' _ _ ⟨r,by omega,rfl,h2⟩
 clear h1 s;rintro e s ⟨r,hr,rfl,h1⟩;refine Gd (fun e s=>∃ nb:Bool,(nb=true->k≠0)/\e=[(0,.ptr m 0 0),(1,.int .i64 (k:Int)),(4,.ptr σ.length 0 0),(5,.int .i64 (r:Int)),(6,.bool nb)]/\MW σ s m b H) ?_ ?_
 ·intro k' hk';obtain⟨th,left,se,tx,ao,lp,vH,m1,-⟩:=Hl h1;by_cases hk0:k=0
  ·have f1:((0:Int)<(k:Int))=False:=eq_false (by omega);simp only[go_sem,gt_iff_lt,f1];exact hk' _ _ ⟨false,(fun h=>by cases h),rfl,h1⟩
  have f1:((0:Int)<(k:Int))=True:=eq_true (by omega);by_cases hl:0<left
  ·have f2:((0:Int)<left)=True:=eq_true hl;cases tx
   ·simp only[go_sem,gt_iff_lt,f1,f2,m1,Av];exact hk' _ _ ⟨true,fun _=>hk0,rfl,h1⟩
   ·simp only[go_sem,gt_iff_lt,f1,f2,m1,Ap];exact hk' _ _ ⟨false,(fun h=>by cases h),rfl,h1⟩
  ·have f2:((0:Int)<left)=False:=eq_false hl;simp only[go_sem,gt_iff_lt,f1,f2,m1];exact hk' _ _ ⟨false,(fun h=>by cases h),rfl,h1⟩
 clear h1 s;rintro e s ⟨nb,hnb,rfl,h1⟩;have hH1:H.length<=1000:=by omega
 refine Gd (fun e s=>e=[(0,.ptr m 0 0),(1,.int .i64 (k:Int)),(4,.ptr σ.length 0 0)]/\MW σ s m b H) ?_ ?_;rotate_left
 ·clear h1 s;rintro e s ⟨rfl,h1⟩;obtain⟨x,s2,q2,hx,h2,w2,xs⟩:=Pi h1 1;simp only[go_sem];refine B5 q2 ?_;simp only[go_sem];refine Ad (Qt [120] x) (by simp only[go_sem]) ?_;simp only[go_sem,h2.z];exact Gw (op:=1) (line:=0) (nm:=[120]) (arg:=[]) (iz:=true) (it:=0) (idx:=[]) (ex:=x) (LB:=[]) (LE:=[]) h2 rfl (.inl ⟨true,0,rfl⟩) (.inl ⟨true,0,rfl⟩) (by rfl) fun _ _ _ _=>Acn (Fu (by kernel_rfl)) hx _ _ _ _
 intro k' hk';rcases(show r<4\/r=4\/r=5\/r=6\/r=7\/r=8\/r=9\/r=10\/r=11\/r=12\/r=13\/r=14\/r=15\/r=16\/r=17 by omega) with h4 | rfl | rfl | rfl | rfl | rfl | rfl | rfl | rfl | rfl | rfl | rfl | rfl | rfl | rfl
 ·obtain⟨nm,hn,hnl⟩:=T0 [[120],[121],[120],[118]] (by kernel_rfl) (j:=r) (by simp;omega);simp only[Ba,Bs]at hn;have f1:((r:Int)<4)=True:=eq_true (by omega);obtain⟨x,s2,q2,hx,h2,w2,xs⟩:=Pi h1 1;simp only[go_sem,f1];refine Ag (by kernel_rfl) ?_;simp only[go_sem,hn];refine F1 (Yi q2) ?_;simp only[go_sem];refine Bf (Qt nm x) (by simp only[go_sem,xs]) ?_;simp only[go_sem,h2.z];refine Ay ?_;simp only[go_sem];exact Gw (op:=1) (line:=0) (nm:=nm) (arg:=[]) (iz:=true) (it:=0) (idx:=[]) (ex:=x) (LB:=[]) (LE:=[]) h2 rfl (.inl ⟨true,0,rfl⟩) (.inl ⟨true,0,rfl⟩) (by rfl) fun _ _ _ _=>Acn hnl hx _ _ _ _
 ·obtain⟨th,left,se,tx,ao,lp,vH,m1,-⟩:=Hl h1;obtain⟨j,s2,q2,hj,h2,w2,mm2⟩:=Rg h1 2;obtain⟨nm,hn,hnl⟩:=T0 [[97],[98]] (by kernel_rfl) (j:=j) (by simp;omega);simp only[Ba,Bs]at hn;obtain⟨x,s3,q3,hx,h3,w3,xs⟩:=Pi h2 1;have q2':Bp TT PT 51 [.ptr b 0 0,.int .i64 2] s (.int .i64 (j:Int)) s2:=q2;simp only[go_sem,Cp,Int.reduceLT,Int.reduceBEq];refine Ag (by kernel_rfl) ?_;simp only[go_sem,m1];refine F1 q2' ?_;simp only[go_sem,hn];refine wgR ?_;simp only[go_sem];have q3':Th TT PT 128 [.ptr m 0 0,.int .i64 1] s2 (.agg [.int .i64 x.op,.int .i64 x.n,.str x.nm,SL x.z x.t (x.l.map Xp.row)]) s3:=q3;refine F1 (Yi q3') ?_;simp only[go_sem];refine Bf (Qt nm x) (by simp only[go_sem,xs]) ?_;simp only[go_sem,h3.z];refine Ay ?_;simp only[go_sem];exact Gw (op:=1) (line:=0) (nm:=nm) (arg:=[]) (iz:=true) (it:=0) (idx:=[]) (ex:=x) (LB:=[]) (LE:=[]) h3 rfl (.inl ⟨true,0,rfl⟩) (.inl ⟨true,0,rfl⟩) (by rfl) fun _ _ _ _=>Acn hnl hx _ _ _ _
 ·obtain⟨y,s2,q2,hy,h2,w2,ys⟩:=Pi h1 0;obtain⟨x,s3,q3,hx,h3,w3,xs⟩:=Pi h2 1;have hyr:=Ax y;simp only[go_sem,Cp,Int.reduceLT,Int.reduceBEq];refine B5 q2 ?_;simp only[go_sem];refine B5 q3 ?_;simp only[go_sem,h3.z];exact Gw (op:=1) (line:=0) (nm:=[113]) (arg:=[]) (iz:=true) (it:=1) (idx:=[y]) (ex:=x) (LB:=[]) (LE:=[]) h3 rfl (.inl ⟨true,0,rfl⟩) (.inl ⟨true,0,rfl⟩) (by simp only[Ba,Bs,hyr];rfl) fun _ _ _ _=>G0 (by simp) (by simp) (fun h=>absurd rfl h) (by simp;exact hy) (.inl ⟨rfl,hx⟩) (.inr ⟨rfl,Fu (by kernel_rfl)⟩) (.inl ⟨by simp,rfl⟩) (fun _=>rfl) (fun _=>rfl) (fun h=>by have h:false=true:=h;cases h)
 ·by_cases hk0:k=0
  ·have f1:((0:Int)<(k:Int))=False:=eq_false (by omega);simp only[go_sem,Cp,Int.reduceLT,Int.reduceBEq,gt_iff_lt,f1];exact hk' _ _ ⟨rfl,h1⟩
  have f1:((0:Int)<(k:Int))=True:=eq_true (by omega);have ek:=e3 hk0;obtain⟨x,s2,q2,hx,h2,w2,xs⟩:=Pi h1 1;obtain⟨u3,L3,s3,q3,b3,⟨c31,c32,c33,r3⟩,⟨L31,L32⟩,h3,w3⟩:=T7 (ih (k - 1) (by omega)) h2 (by omega) 1;obtain⟨hp4,wp4,np4,kp4,dp4⟩:=X1 h3 (.row [.int .i64 2,.int .i64 0,.str [],.str [],.nils,.int .i64 x.op,.int .i64 x.n,.str x.nm,SL x.z x.t (x.l.map Xp.row),u3,.nils] 105 0 0) (by simp only[Ob.refs,Aj,Ky,V.refs,Es,Cw];exact fun i hi=>Zw (Ch b3.1 i hi));obtain⟨s4,es4⟩:∃ t,t=s3++[Ob.row [.int .i64 2,.int .i64 0,.str [],.str [],.nils,.int .i64 x.op,.int .i64 x.n,.str x.nm,SL x.z x.t (x.l.map Xp.row),u3,.nils] 105 0 0]:=⟨_,rfl⟩;rw[<-es4]at hp4 wp4 np4 kp4;have h4:=hp4;have b4:=M3 b3 wp4;obtain⟨th,left,se,tx,ao,lp,vH,m4,-⟩:=Hl h4;obtain⟨j,s5,q5,hj,h5,w5,mm5⟩:=Rg h4 2;have b5:=M3 b4 w5;obtain⟨k5,n5⟩:=Gu w5 kp4 np4;simp only[go_sem,Cp,Int.reduceLT,Int.reduceBEq,gt_iff_lt,f1];refine B5 q2 ?_;simp only[go_sem,ek];refine Ac q3 ?_;simp only[go_sem,c31,c32,c33];rw[<-es4];simp only[go_sem,m4];refine Ac q5 ?_;by_cases j1:j=1
  ·subst j1;obtain⟨u6,L6,s6,q6,b6,⟨c61,c62,c63,r6⟩,⟨L61,L62⟩,h6,w6⟩:=T7 (ih (k - 1) (by omega)) h5 (by omega) 1;obtain⟨k6,n6⟩:=Gu w6 k5 n5;have b36:=M3 b5 w6;have hs3:σ.length<s3.length:=Sb h3;have hl6:s3.length<s6.length:=(Ar.1 k6).1;have hu3:s3.length ∉ u3.refs:=fun e=>by have:=Ch b3.1 _ e;omega
   have hu6:s3.length ∉ u6.refs:=fun e=>by
    have:=r6 _ e;have:=w5.1;have:=(Ar.1 kp4).1;omega
   have h7:=Aym h6 (.row [.int .i64 2,.int .i64 0,.str [],.str [],.nils,.int .i64 x.op,.int .i64 x.n,.str x.nm,SL x.z x.t (x.l.map Xp.row),u3,u6] 105 0 0) hs3 n6 (by
    simp only[Ob.refs,Aj,Ky,V.refs,Es,Cw];intro i hi;rcases Cq.1 hi with hi | hi
    ·exact Ch b36.1 i hi
    ·exact Ch b6.1 i hi)
   have k7:(s6.set s3.length (.row [.int .i64 2,.int .i64 0,.str [],.str [],.nils,.int .i64 x.op,.int .i64 x.n,.str x.nm,SL x.z x.t (x.l.map Xp.row),u3,u6] 105 0 0))[s3.length]?=some (.row [.int .i64 2,.int .i64 0,.str [],.str [],.nils,.int .i64 x.op,.int .i64 x.n,.str x.nm,SL x.z x.t (x.l.map Xp.row),u3,u6] 105 0 0):=B8 hl6;have z7:=h7.z;have b37:=Akv (.row [.int .i64 2,.int .i64 0,.str [],.str [],.nils,.int .i64 x.op,.int .i64 x.n,.str x.nm,SL x.z x.t (x.l.map Xp.row),u3,u6] 105 0 0) b36 hu3 dp4;have b67:=Akv (.row [.int .i64 2,.int .i64 0,.str [],.str [],.nils,.int .i64 x.op,.int .i64 x.n,.str x.nm,SL x.z x.t (x.l.map Xp.row),u3,u6] 105 0 0) b6 hu6 dp4;simp only[go_sem,Cp,Int.reduceBEq,ek];refine Ac q6 ?_;simp only[go_sem,k6,c61,c62,c63,c33,k7,z7];exact Gw (op:=2) (line:=0) (nm:=[]) (arg:=[]) (iz:=true) (it:=0) (idx:=[]) (ex:=x) (LB:=L3) (LE:=L6) h7 rfl (.inr b37) (.inr b67) (by rfl) fun _ _ _ _=>G0 (by simp) (by simp) (fun _=>rfl) (by simp) (.inl ⟨rfl,hx⟩) (.inl ⟨rfl,rfl⟩) (.inl ⟨by simp,rfl⟩) (fun h=>by have h:true=false:=h;cases h) (fun h=>absurd rfl h) (fun _=>⟨hk0,⟨Cj L32 (by omega),L31⟩,⟨L62,L61⟩⟩)
  ·have fj:((j:Int)==1)=false:=by simp;omega
   simp only[go_sem,fj,k5,h5.z,c33];exact Gw (op:=2) (line:=0) (nm:=[]) (arg:=[]) (iz:=true) (it:=0) (idx:=[]) (ex:=x) (LB:=L3) (LE:=[]) h5 rfl (.inr b5) (.inl ⟨true,0,rfl⟩) (by rfl) fun _ _ _ _=>G0 (by simp) (by simp) (fun _=>rfl) (by simp) (.inl ⟨rfl,hx⟩) (.inl ⟨rfl,rfl⟩) (.inl ⟨by simp,rfl⟩) (fun h=>by have h:true=false:=h;cases h) (fun h=>absurd rfl h) (fun _=>⟨hk0,⟨Cj L32 (by omega),L31⟩,⟨by simp,by simp⟩⟩)
 ·by_cases hk0:k=0
  ·have f1:((0:Int)<(k:Int))=False:=eq_false (by omega);simp only[go_sem,Cp,Int.reduceLT,Int.reduceBEq,gt_iff_lt,f1];exact hk' _ _ ⟨rfl,h1⟩
  have f1:((0:Int)<(k:Int))=True:=eq_true (by omega);have ek:=e3 hk0;obtain⟨th1,left1,se1,tx1,ao1,lp1,vH1,m1,ho1⟩:=Hl h1;obtain⟨h2,w2⟩:=ho1 th1 left1 se1 tx1 ao1 true;obtain⟨s2,es2⟩:∃ t,t=s.set m (.row [.ptr b 0 0,.int .i64 th1,.int .i64 left1,.bool se1,.bool tx1,.bool ao1,.bool true,vH1] 98 0 0):=⟨_,rfl⟩;rw[<-es2]at h2 w2;obtain⟨u3,L3,s3,q3,b3,⟨c31,c32,c33,r3⟩,⟨L31,L32⟩,h3,w3⟩:=T7 (ih (k - 1) (by omega)) h2 (by omega) 1;obtain⟨u4,s4,ha,b4,⟨c41,c42,c43⟩,h4⟩:=Ayn b3 h3 (Jc [98] (Jb 6 [98] 1)) (by omega);rw[Yk,Acm]at ha;simp only[Jb,SL,reduceCtorEq,and_false,true_and,if_false]at ha;have xs1:=Qt [98] (Jb 6 [98] 1);rw[Acm]at xs1;simp only[Jb,SL,reduceCtorEq,and_false,true_and,if_false]at xs1;obtain⟨hp5,wp5,np5,kp5,dp5⟩:=X1 h4 (.row [.int .i64 3,.int .i64 0,.str [],.str [],.nils,.int .i64 13,.int .i64 0,.str [],.lst 1 [[.int .i64 2,.int .i64 0,.str [98],.nils],[.int .i64 1,.int .i64 2,.str [],.nils]],u4,.nils] 105 0 0) (by simp only[Ob.refs,Aj,Ky,V.refs,Es,Cw];exact fun i hi=>Zw (Ch b4.1 i hi));obtain⟨s5,es5⟩:∃ t,t=s4++[Ob.row [.int .i64 3,.int .i64 0,.str [],.str [],.nils,.int .i64 13,.int .i64 0,.str [],.lst 1 [[.int .i64 2,.int .i64 0,.str [98],.nils],[.int .i64 1,.int .i64 2,.str [],.nils]],u4,.nils] 105 0 0]:=⟨_,rfl⟩;rw[<-es5]at hp5 wp5 np5 kp5;have h5:=hp5;have b5:=M3 b4 wp5;obtain⟨th5,left5,se5,tx5,ao5,lp5,vH5,m5,ho5⟩:=Hl h5;obtain⟨h6,w6⟩:=ho5 th5 left5 se5 tx5 ao5 lp1;obtain⟨s6,es6⟩:∃ t,t=s5.set m (.row [.ptr b 0 0,.int .i64 th5,.int .i64 left5,.bool se5,.bool tx5,.bool ao5,.bool lp1,vH5] 98 0 0):=⟨_,rfl⟩;rw[<-es6]at h6 w6;have b6:=M3 b5 w6;obtain⟨k6,n6⟩:=Gu w6 kp5 np5;simp only[go_sem,Cp,Int.reduceLT,Int.reduceBEq,gt_iff_lt,f1,m1];rw[<-es2];refine Ad (Y2 _) (by rfl) ?_;simp only[go_sem];refine Ad (Zg _) (by rfl) ?_;simp only[go_sem];refine Ad (Ame _ _ _) (by rfl) ?_;simp only[go_sem,ek];refine Ac q3 ?_;simp only[go_sem];refine Ad (Y2 _) (by rfl) ?_;simp only[go_sem];refine Ad (Zg _) (by rfl) ?_;simp only[go_sem];refine Ad (Ame _ _ _) (by rfl) ?_;simp only[go_sem]
  refine Ad xs1 (by rfl) ?_;simp only[go_sem,ha,c41,c42,c43];rw[<-es5];simp only[go_sem,m5];rw[<-es6];simp only[go_sem,k6,h6.z,c43];exact Gw (op:=3) (line:=0) (nm:=[]) (arg:=[]) (iz:=true) (it:=0) (idx:=[]) (ex:=Jb 13 [98] 2) (LB:=(L3++[Jc [98] (Jb 6 [98] 1)])) (LE:=[]) h6 rfl (.inr b6) (.inl ⟨true,0,rfl⟩) (by rw[Acm];rfl) fun _ _ _ _=>G0 (by simp) (by simp) (fun _=>rfl) (by simp) (.inl ⟨rfl,(Alt (by omega)).1⟩) (.inl ⟨rfl,rfl⟩) (.inl ⟨by simp,rfl⟩) (fun h=>by have h:true=false:=h;cases h) (fun _=>rfl) (fun _=>⟨hk0,⟨Cj (Aaa Ao) (by rw[Hr];omega),fun y hy=>(Cq.1 hy).elim (L31 y) fun hy=>by rw[Ey.1 hy];exact Adi (Fu (by kernel_rfl)) (Alt (by omega)).2⟩,⟨by simp,by simp⟩⟩)
 ·cases nb
  ·simp only[go_sem,Cp,Int.reduceLT,Int.reduceBEq];exact hk' _ _ ⟨rfl,h1⟩
  have hk0:=hnb rfl;have ek:=e3 hk0;obtain⟨z,qh⟩:=Q7 h1 hH1 [109];simp only[go_sem,Cp,Int.reduceLT,Int.reduceBEq,Int.reduceSub];refine B5 qh ?_;cases z;rotate_left
  ·simp only[go_sem,Cp,Int.reduceLT,Int.reduceBEq,Ap];exact hk' _ _ ⟨rfl,h1⟩
  obtain⟨u3,L3,s3,q3,b3,⟨c31,c32,c33,r3⟩,⟨L31,L32⟩,h3,w3⟩:=Xk (W3 (ih (k - 1) (by omega))) h1 (by omega) [109];simp only[go_sem,Cp,Int.reduceLT,Int.reduceBEq,Int.reduceSub,Av,ek];refine Ac q3 ?_;simp only[go_sem,c31,c32,c33,h3.z];exact Gw (op:=4) (line:=0) (nm:=[109]) (arg:=[]) (iz:=true) (it:=0) (idx:=[]) (ex:=Xp.zero) (LB:=L3) (LE:=[]) h3 rfl (.inr b3) (.inl ⟨true,0,rfl⟩) (by rfl) fun _ _ _ _=>G0 (by simp) (by simp) (fun _=>rfl) (by simp) (.inr ⟨rfl,rfl⟩) (.inr ⟨rfl,Fu (by kernel_rfl)⟩) (.inl ⟨by simp,rfl⟩) (fun h=>by have h:true=false:=h;cases h) (fun _=>rfl) (fun _=>⟨hk0,⟨Cj L32 (by omega),L31⟩,⟨by simp,by simp⟩⟩)
 ·cases nb
  ·simp only[go_sem,Cp,Int.reduceLT,Int.reduceBEq];exact hk' _ _ ⟨rfl,h1⟩
  have hk0:=hnb rfl;have ek:=e3 hk0;obtain⟨z,qh⟩:=Q7 h1 hH1 [110];simp only[go_sem,Cp,Int.reduceLT,Int.reduceBEq,Int.reduceSub];refine B5 qh ?_;cases z;rotate_left
  ·simp only[go_sem,Cp,Int.reduceLT,Int.reduceBEq,Ap];exact hk' _ _ ⟨rfl,h1⟩
  obtain⟨u3,L3,s3,q3,b3,⟨c31,c32,c33,r3⟩,⟨L31,L32⟩,h3,w3⟩:=Xk (W3 (ih (k - 1) (by omega))) h1 (by omega) [110];simp only[go_sem,Cp,Int.reduceLT,Int.reduceBEq,Int.reduceSub,Av,ek];refine Ac q3 ?_;simp only[go_sem,c31,c32,c33,h3.z];exact Gw (op:=4) (line:=0) (nm:=[110]) (arg:=[]) (iz:=true) (it:=0) (idx:=[]) (ex:=Xp.zero) (LB:=L3) (LE:=[]) h3 rfl (.inr b3) (.inl ⟨true,0,rfl⟩) (by rfl) fun _ _ _ _=>G0 (by simp) (by simp) (fun _=>rfl) (by simp) (.inr ⟨rfl,rfl⟩) (.inr ⟨rfl,Fu (by kernel_rfl)⟩) (.inl ⟨by simp,rfl⟩) (fun h=>by have h:true=false:=h;cases h) (fun _=>rfl) (fun _=>⟨hk0,⟨Cj L32 (by omega),L31⟩,⟨by simp,by simp⟩⟩)
 ·cases nb
  ·simp only[go_sem,Cp,Int.reduceLT,Int.reduceBEq];exact hk' _ _ ⟨rfl,h1⟩
  have hk0:=hnb rfl;have ek:=e3 hk0;obtain⟨z,qh⟩:=Q7 h1 hH1 [114];simp only[go_sem,Cp,Int.reduceLT,Int.reduceBEq,Int.reduceSub];refine B5 qh ?_;cases z;rotate_left
  ·simp only[go_sem,Cp,Int.reduceLT,Int.reduceBEq,Ap];exact hk' _ _ ⟨rfl,h1⟩
  obtain⟨u3,L3,s3,q3,b3,⟨c31,c32,c33,r3⟩,⟨L31,L32⟩,h3,w3⟩:=Xk (W3 (ih (k - 1) (by omega))) h1 (by omega) [114];simp only[go_sem,Cp,Int.reduceLT,Int.reduceBEq,Int.reduceSub,Int.reduceAdd,Av,ek];refine Ac q3 ?_;simp only[go_sem,c31,c32,c33,h3.z];exact Gw (op:=5) (line:=0) (nm:=[114]) (arg:=[]) (iz:=true) (it:=0) (idx:=[]) (ex:=Xp.zero) (LB:=L3) (LE:=[]) h3 rfl (.inr b3) (.inl ⟨true,0,rfl⟩) (by rfl) fun _ _ _ _=>G0 (by simp) (by simp) (fun _=>rfl) (by simp) (.inr ⟨rfl,rfl⟩) (.inr ⟨rfl,Fu (by kernel_rfl)⟩) (.inl ⟨by simp,rfl⟩) (fun h=>by have h:true=false:=h;cases h) (fun _=>rfl) (fun _=>⟨hk0,⟨Cj L32 (by omega),L31⟩,⟨by simp,by simp⟩⟩)
 ·cases nb
  ·simp only[go_sem,Cp,Int.reduceLT,Int.reduceBEq];exact hk' _ _ ⟨rfl,h1⟩
  have hk0:=hnb rfl;have ek:=e3 hk0;obtain⟨z,qh⟩:=Q7 h1 hH1 [114];simp only[go_sem,Cp,Int.reduceLT,Int.reduceBEq,Int.reduceSub];refine B5 qh ?_;cases z;rotate_left
  ·simp only[go_sem,Cp,Int.reduceLT,Int.reduceBEq,Ap];exact hk' _ _ ⟨rfl,h1⟩
  obtain⟨u3,L3,s3,q3,b3,⟨c31,c32,c33,r3⟩,⟨L31,L32⟩,h3,w3⟩:=Xk (W3 (ih (k - 1) (by omega))) h1 (by omega) [114];simp only[go_sem,Cp,Int.reduceLT,Int.reduceBEq,Int.reduceSub,Int.reduceAdd,Av,ek];refine Ac q3 ?_;simp only[go_sem,c31,c32,c33,h3.z];exact Gw (op:=6) (line:=0) (nm:=[114]) (arg:=[]) (iz:=true) (it:=0) (idx:=[]) (ex:=Xp.zero) (LB:=L3) (LE:=[]) h3 rfl (.inr b3) (.inl ⟨true,0,rfl⟩) (by rfl) fun _ _ _ _=>G0 (by simp) (by simp) (fun _=>rfl) (by simp) (.inr ⟨rfl,rfl⟩) (.inr ⟨rfl,Fu (by kernel_rfl)⟩) (.inl ⟨by simp,rfl⟩) (fun h=>by have h:true=false:=h;cases h) (fun _=>rfl) (fun _=>⟨hk0,⟨Cj L32 (by omega),L31⟩,⟨by simp,by simp⟩⟩)
 ·cases nb
  ·simp only[go_sem,Cp,Int.reduceLT,Int.reduceBEq];exact hk' _ _ ⟨rfl,h1⟩
  have hk0:=hnb rfl;have ek:=e3 hk0;obtain⟨th1,left1,se1,tx1,ao1,lp1,vH1,m1,ho1⟩:=Hl h1;obtain⟨h2,w2⟩:=ho1 th1 left1 se1 true ao1 lp1;obtain⟨s2,es2⟩:∃ t,t=s.set m (.row [.ptr b 0 0,.int .i64 th1,.int .i64 left1,.bool se1,.bool true,.bool ao1,.bool lp1,vH1] 98 0 0):=⟨_,rfl⟩;rw[<-es2]at h2 w2;obtain⟨th2,left2,se2,tx2,ao2,lp2,vH2,m2,-⟩:=Hl h2;obtain⟨j,s3,q3,hj,h3,w3,mm3⟩:=Rg h2 2;have ej:IntKind.i64.wrap (1+(j:Int))=((1+j:Nat):Int):=by rw[Ef (by omega)];omega
  obtain⟨u4,L4,s4,q4,b4,⟨c41,c42,c43,r4⟩,⟨L41,L42⟩,h4,w4⟩:=T7 (ih 0 (by omega)) h3 (by omega) (1+j);obtain⟨hp5,wp5,np5,kp5,dp5⟩:=X1 h4 (.row [.int .i64 7,.int .i64 0,.str [],.str [],.nils,.int .i64 0,.int .i64 0,.str [],.nils,u4,.nils] 105 0 0) (by simp only[Ob.refs,Aj,Ky,V.refs,Es,Cw];exact fun i hi=>Zw (Ch b4.1 i hi));obtain⟨s5,es5⟩:∃ t,t=s4++[Ob.row [.int .i64 7,.int .i64 0,.str [],.str [],.nils,.int .i64 0,.int .i64 0,.str [],.nils,u4,.nils] 105 0 0]:=⟨_,rfl⟩;rw[<-es5]at hp5 wp5 np5 kp5;have h5:=hp5;have b5:=M3 b4 wp5;obtain⟨th5,left5,se5,tx5,ao5,lp5,vH5,m5,ho5⟩:=Hl h5;obtain⟨h6,w6⟩:=ho5 th5 left5 se5 false ao5 lp5;obtain⟨s6,es6⟩:∃ t,t=s5.set m (.row [.ptr b 0 0,.int .i64 th5,.int .i64 left5,.bool se5,.bool false,.bool ao5,.bool lp5,vH5] 98 0 0):=⟨_,rfl⟩;rw[<-es6]at h6 w6;have b6:=M3 b5 w6;obtain⟨k6,n6⟩:=Gu w6 kp5 np5;simp only[go_sem,Cp,Int.reduceLT,Int.reduceBEq,m1];rw[<-es2];simp only[go_sem,m2];refine Ac q3 ?_;simp only[go_sem,ej];refine Ac q4 ?_;simp only[go_sem,c41,c42,c43];rw[<-es5];simp only[go_sem,m5];rw[<-es6];simp only[go_sem,k6,h6.z,c43];exact Gw (op:=7) (line:=0) (nm:=[]) (arg:=[]) (iz:=true) (it:=0) (idx:=[]) (ex:=Xp.zero) (LB:=L4) (LE:=[]) h6 rfl (.inr b6) (.inl ⟨true,0,rfl⟩) (by rfl) fun _ _ _ _=>G0 (by simp) (by simp) (fun _=>rfl) (by simp) (.inr ⟨rfl,rfl⟩) (.inl ⟨rfl,rfl⟩) (.inl ⟨by simp,rfl⟩) (fun h=>by have h:true=false:=h;cases h) (fun _=>rfl) (fun _=>⟨hk0,⟨Cj L42 (by omega),fun y hy=>Au6 (A2 _) (L41 y hy)⟩,⟨by simp,by simp⟩⟩)
 ·cases nb
  ·simp only[go_sem,Cp,Int.reduceLT,Int.reduceBEq];exact hk' _ _ ⟨rfl,h1⟩
  have hk0:=hnb rfl;have ek:=e3 hk0;obtain⟨th1,left1,se1,tx1,ao1,lp1,vH1,m1,ho1⟩:=Hl h1;cases ao1;rotate_left
  ·simp only[go_sem,Cp,Int.reduceLT,Int.reduceBEq,m1,Ap];exact hk' _ _ ⟨rfl,h1⟩
  obtain⟨h2,w2⟩:=ho1 th1 left1 se1 tx1 true lp1;obtain⟨s2,es2⟩:∃ t,t=s.set m (.row [.ptr b 0 0,.int .i64 th1,.int .i64 left1,.bool se1,.bool tx1,.bool true,.bool lp1,vH1] 98 0 0):=⟨_,rfl⟩;rw[<-es2]at h2 w2;obtain⟨u4,L4,s4,q4,b4,⟨c41,c42,c43,r4⟩,⟨L41,L42⟩,h4,w4⟩:=T7 (ih (k - 1) (by omega)) h2 (by omega) 2;obtain⟨hp5,wp5,np5,kp5,dp5⟩:=X1 h4 (.row [.int .i64 8,.int .i64 0,.str [],.str [],.nils,.int .i64 0,.int .i64 0,.str [],.nils,u4,.nils] 105 0 0) (by simp only[Ob.refs,Aj,Ky,V.refs,Es,Cw];exact fun i hi=>Zw (Ch b4.1 i hi));obtain⟨s5,es5⟩:∃ t,t=s4++[Ob.row [.int .i64 8,.int .i64 0,.str [],.str [],.nils,.int .i64 0,.int .i64 0,.str [],.nils,u4,.nils] 105 0 0]:=⟨_,rfl⟩;rw[<-es5]at hp5 wp5 np5 kp5;have h5:=hp5;have b5:=M3 b4 wp5;obtain⟨th5,left5,se5,tx5,ao5,lp5,vH5,m5,ho5⟩:=Hl h5;obtain⟨h6,w6⟩:=ho5 th5 left5 se5 tx5 false lp5;obtain⟨s6,es6⟩:∃ t,t=s5.set m (.row [.ptr b 0 0,.int .i64 th5,.int .i64 left5,.bool se5,.bool tx5,.bool false,.bool lp5,vH5] 98 0 0):=⟨_,rfl⟩;rw[<-es6]at h6 w6;have b6:=M3 b5 w6;obtain⟨k6,n6⟩:=Gu w6 kp5 np5;simp only[go_sem,Cp,Int.reduceLT,Int.reduceBEq,m1,Av];rw[<-es2];simp only[go_sem,ek];refine Ac q4 ?_;simp only[go_sem,c41,c42,c43];rw[<-es5];simp only[go_sem,m5];rw[<-es6];simp only[go_sem,k6,h6.z,c43];exact Gw (op:=8) (line:=0) (nm:=[]) (arg:=[]) (iz:=true) (it:=0) (idx:=[]) (ex:=Xp.zero) (LB:=L4) (LE:=[]) h6 rfl (.inr b6) (.inl ⟨true,0,rfl⟩) (by rfl) fun _ _ _ _=>G0 (by simp) (by simp) (fun _=>rfl) (by simp) (.inr ⟨rfl,rfl⟩) (.inl ⟨rfl,rfl⟩) (.inl ⟨by simp,rfl⟩) (fun h=>by have h:true=false:=h;cases h) (fun _=>rfl) (fun _=>⟨hk0,⟨Cj L42 (by omega),L41⟩,⟨by simp,by simp⟩⟩)
 ·cases nb
  ·simp only[go_sem,Cp,Int.reduceLT,Int.reduceBEq];exact hk' _ _ ⟨rfl,h1⟩
  have hk0:=hnb rfl;have ek:=e3 hk0;obtain⟨th1,left1,se1,tx1,ao1,lp1,vH1,m1,ho1⟩:=Hl h1;cases ao1;rotate_left
  ·simp only[go_sem,Cp,Int.reduceLT,Int.reduceBEq,m1,Ap];exact hk' _ _ ⟨rfl,h1⟩
  obtain⟨z,qh⟩:=Q7 h1 hH1 [109];simp only[go_sem,Cp,Int.reduceLT,Int.reduceBEq,m1,Av];refine B5 qh ?_;cases z;rotate_left
  ·simp only[go_sem,Cp,Int.reduceLT,Int.reduceBEq,Ap];exact hk' _ _ ⟨rfl,h1⟩
  have xs1:=Qt [97] (E8 [120]);simp only[E8,SL,Bs,and_self,true_and,if_true]at xs1;simp only[go_sem,Av];refine Ad (Y2 _) (by rfl) ?_;simp only[go_sem];refine Ad xs1 (by rfl) ?_;simp only[go_sem,h1.z];exact Gw (op:=4) (line:=0) (nm:=[109]) (arg:=[]) (iz:=true) (it:=0) (idx:=[]) (ex:=Xp.zero) (LB:=[Jd 9 [99],Jc [97] (E8 [120])]) (LE:=[]) h1 rfl (.inl ⟨true,1,by simp only[Ba,Bs,Rq,Yk];rfl⟩) (.inl ⟨true,0,rfl⟩) (by simp only[Ba,Bs,Rq,Yk];rfl) fun _ _ _ _=>G0 (by simp) (by simp) (fun _=>rfl) (by simp) (.inr ⟨rfl,rfl⟩) (.inr ⟨rfl,Fu (by kernel_rfl)⟩) (.inl ⟨by simp,rfl⟩) (fun h=>by have h:true=false:=h;cases h) (fun _=>rfl) (fun _=>⟨hk0,⟨by simp,fun y hy=>by simp only[Be,Oy,or_false]at hy;rcases hy with rfl | rfl<;>first | exact Ve (.inl rfl) (Fu (by kernel_rfl)) | exact Adi (Fu (by kernel_rfl)) (A1v (Fu (by kernel_rfl)) 1)⟩,⟨by simp,by simp⟩⟩)
 ·cases nb
  ·simp only[go_sem,Cp,Int.reduceLT,Int.reduceBEq];exact hk' _ _ ⟨rfl,h1⟩
  have hk0:=hnb rfl;have ek:=e3 hk0;obtain⟨z,qh⟩:=Q7 h1 hH1 [109];simp only[go_sem,Cp,Int.reduceLT,Int.reduceBEq];refine B5 qh ?_;cases z;rotate_left
  ·simp only[go_sem,Cp,Int.reduceLT,Int.reduceBEq,Ap];exact hk' _ _ ⟨rfl,h1⟩
  obtain⟨th1,left1,se1,tx1,ao1,lp1,vH1,m1,ho1⟩:=Hl h1;obtain⟨j,s3,q3,hj,h3,w3,mm3⟩:=Rg h1 2;have ej:IntKind.i64.wrap (10+(j:Int))=10+(j:Int):=Ef (by omega);simp only[go_sem,Av,m1];refine Ac q3 ?_;simp only[go_sem,ej,h3.z];exact Gw (op:=4) (line:=0) (nm:=[109]) (arg:=[]) (iz:=true) (it:=0) (idx:=[]) (ex:=Xp.zero) (LB:=[Jd (10+(j:Int)) [99]]) (LE:=[]) h3 rfl (.inl ⟨true,1,by simp only[Ba,Bs,Rq];rfl⟩) (.inl ⟨true,0,rfl⟩) (by simp only[Ba,Bs,Rq];rfl) fun _ _ _ _=>G0 (by simp) (by simp) (fun _=>rfl) (by simp) (.inr ⟨rfl,rfl⟩) (.inr ⟨rfl,Fu (by kernel_rfl)⟩) (.inl ⟨by simp,rfl⟩) (fun h=>by have h:true=false:=h;cases h) (fun _=>rfl) (fun _=>⟨hk0,⟨by simp,fun y hy=>by rw[Ey.1 hy];exact Ve (by omega) (Fu (by kernel_rfl))⟩,⟨by simp,by simp⟩⟩)
 ·obtain⟨th1,left1,se1,tx1,ao1,lp1,vH1,m1,ho1⟩:=Hl h1;cases tx1;rotate_left
  ·simp only[go_sem,Cp,Int.reduceLT,Int.reduceBEq,m1,Ap];exact hk' _ _ ⟨rfl,h1⟩
  cases lp1;rotate_left
  ·simp only[go_sem,Cp,Int.reduceLT,Int.reduceBEq,m1,Ap,Av];exact hk' _ _ ⟨rfl,h1⟩
  cases se1;rotate_left
  ·simp only[go_sem,Cp,Int.reduceLT,Int.reduceBEq,m1,Ap,Av];exact hk' _ _ ⟨rfl,h1⟩
  obtain⟨h2,w2⟩:=ho1 th1 left1 true false ao1 false;obtain⟨s2,es2⟩:∃ t,t=s.set m (.row [.ptr b 0 0,.int .i64 th1,.int .i64 left1,.bool true,.bool false,.bool ao1,.bool false,vH1] 98 0 0):=⟨_,rfl⟩;rw[<-es2]at h2 w2;obtain⟨x,s3,q3,hx,h3,w3,xs⟩:=Pi h2 1;simp only[go_sem,Cp,Int.reduceLT,Int.reduceBEq,m1,Av];rw[<-es2];refine B5 q3 ?_;simp only[go_sem,h3.z];exact Gw (op:=14) (line:=0) (nm:=[102]) (arg:=[]) (iz:=true) (it:=0) (idx:=[]) (ex:=x) (LB:=[]) (LE:=[]) h3 rfl (.inl ⟨true,0,rfl⟩) (.inl ⟨true,0,rfl⟩) (by rfl) fun _ _ _ _=>G0 (by simp) (by simp) (fun _=>rfl) (by simp) (.inl ⟨rfl,hx⟩) (.inr ⟨rfl,Fu (by kernel_rfl)⟩) (.inl ⟨by simp,rfl⟩) (fun _=>rfl) (fun _=>rfl) (fun h=>by have h:false=true:=h;cases h)
 ·obtain⟨th1,left1,se1,tx1,ao1,lp1,vH1,m1,ho1⟩:=Hl h1;cases tx1;rotate_left
  ·simp only[go_sem,Cp,Int.reduceLT,Int.reduceBEq,m1,Ap];exact hk' _ _ ⟨rfl,h1⟩
  obtain⟨j,s3,q3,hj,h3,w3,mm3⟩:=Rg h1 2;simp only[go_sem,Cp,Int.reduceLT,Int.reduceBEq,m1,Av];refine Ac q3 ?_;by_cases j1:j=1
  ·subst j1;simp only[go_sem,Cp,Int.reduceBEq,h3.z];exact Gw (op:=15) (line:=0) (nm:=[97]) (arg:=[102]) (iz:=true) (it:=0) (idx:=[]) (ex:=Xp.zero) (LB:=[]) (LE:=[]) h3 rfl (.inl ⟨true,0,rfl⟩) (.inl ⟨true,0,rfl⟩) (by rfl) fun _ _ _ _=>G0 (by simp) (by simp) (fun _=>rfl) (by simp) (.inr ⟨rfl,rfl⟩) (.inr ⟨rfl,Fu (by kernel_rfl)⟩) (.inr ⟨rfl,Fu (by kernel_rfl)⟩) (fun _=>rfl) (fun _=>rfl) (fun h=>by have h:false=true:=h;cases h)
  ·have fj:((j:Int)==1)=false:=by simp;omega
   simp only[go_sem,fj];exact hk' _ _ ⟨rfl,h3⟩
theorem Agn:∀ (K:Nat),K<=20->∀ k,k<=K->MSt k/\Vt k
 | 0,hK,k,hk=>by
  have h:=Afp (k:=k) (by omega) fun j hj=>by omega
  exact⟨h,Agm h⟩
 | K+1,hK,k,hk=>by
  have h:=Afp (k:=k) (by omega) fun j hj=>(Agn K (by omega) j (by omega)).2
  exact⟨h,Agm h⟩
