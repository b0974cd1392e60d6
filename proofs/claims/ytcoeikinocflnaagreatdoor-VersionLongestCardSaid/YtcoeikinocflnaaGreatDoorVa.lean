/- Walks: the tables of lengths, both sides. -/
import Derived.Test.YtcoeikinocflnaaGreatDoorUn
import Derived.Test.YtcoeikinocflnaaGreatDoorNu
set_option linter.all false
namespace Go.Proofs.YtcoeikinocflnaaGreatDoor.KM
open Go
theorem tk1{l:List V}{i:Nat}{x:V}(h:l[i]?=some x):List.take 1 (List.drop i l)=[x]:=by
 obtain⟨h1,h2⟩:=Au.1 h
 rw[Fg h1,h2]
 rfl
theorem Yr{l:List V}{i:Nat}(h:i<l.length)(x:V):List.take i l++x::List.drop (i+1) l=l.set i x:=by
 rw[List.set_eq_take_append_cons_drop,if_pos h]
theorem Qp(n:Nat)(v:V):(List.replicate n [v]).flatten=List.replicate n v:=by
 induction n with
 | zero=>rfl
 | succ n ih=>rw[Sc,Ea,ih];rfl
theorem Id(l:List Int):(Az l).length=l.length:=by unfold Az;rw[Bg]
theorem O6{l:List Int}{i:Nat}{x:Int}(h:l[i]?=some x):List.take 1 (List.drop i (Az l))=[.int .i64 x]:=tk1 (Ara h)
theorem Q1{l:List Int}{i:Nat}(h:i<l.length)(x:Int):List.take i (Az l)++V.int .i64 x::List.drop (i+1) (Az l)=Az (l.set i x):=by
 rw[Yr (by rw[Id];exact h),Arb]
theorem Aos{n m i:Nat}(hi:i<n):List.take i (Du n m (i+1))++V.sl (1+(n - i)) 0 0 (m+1) 1 true::List.drop (i+1) (Du n m (i+1))=Du n m i:=by
 rw[Yr (by rw[W1];omega)]
 exact Arc hi
theorem Aje{n m i k:Nat}(h:i<=k)(hk:k<=n):List.take 1 (List.drop k (Du n m i))=[.sl (1+(n - k)) 0 0 (m+1) 1 true]:=tk1 (Ard h hk)
theorem Aot(X Y:List (List UInt8))(OT IT:Nat):([.row (Du X.length Y.length X.length) OT 0 0,.row (List.replicate (Y.length+1) (V.int .i64 0)) IT 0 0]:St)=Eg OT IT X.length Y.length X.length (D2 X Y (X.length - X.length+1)):=by
 rw[Gq]
 unfold Eg D2
 rw[Gn,List.range_one,Vn,Vn,Nat.sub_zero,Aho,Ti]
theorem Arg(X Y:List (List UInt8))(OT IT i:Nat)(hi:i<X.length):(Eg OT IT X.length Y.length (i+1) (D2 X Y (X.length - i))++[Ob.row (List.replicate (Y.length+1) (V.int .i64 0)) IT 0 0]).set 0 (.row (Du X.length Y.length i) OT 0 0)=Eg OT IT X.length Y.length i (D2 X Y (X.length - i)++[Cc X Y i Y.length]):=by
 rw[Ti,Au0,Ahn]
 rfl
set_option maxHeartbeats 4000000 in
theorem Am8(z1 z2:Bool)(t1 t2:Nat)(X Y:List (List UInt8))(hX:X.length<=1000000)(hY:Y.length<=1000000):Fn TT PT 101 [SL z1 t1 (X.map fun x=>[V.str x]),SL z2 t2 (Y.map fun x=>[V.str x])] (Pp (Ht X Y)):=by
 refine Ake T101 rfl ?_
 have hXl:(X.map fun x=>[V.str x]).length=X.length:=Bg ..
 have hYl:(Y.map fun x=>[V.str x]).length=Y.length:=Bg ..
 obtain⟨N,hN⟩:∃ N,N=X.length+1:=⟨_,rfl⟩
 obtain⟨M,hM⟩:∃ M,M=Y.length+1:=⟨_,rfl⟩
 have w1:IntKind.i64.wrap ((X.length:Int)+1)=(N:Int):=by rw[hN];exact Bq (by omega)
 have w2:IntKind.i64.wrap ((Y.length:Int)+1)=(M:Int):=by rw[hM];exact Bq (by omega)
 have w3:IntKind.i64.wrap ((X.length:Int) - 1)=(X.length:Int) - 1:=Ed (by omega)
 have w4:IntKind.i64.wrap ((Y.length:Int) - 1)=(Y.length:Int) - 1:=Ed (by omega)
 have a1:(0<=(N:Int))=True:=eq_true (by omega)
 have a2:((N:Int)<=(N:Int))=True:=eq_true (P9 _)
 have a3:(N*24<=140737488355328)=True:=eq_true (by omega)
 have b1:(0<=(M:Int))=True:=eq_true (by omega)
 have b2:((M:Int)<=(M:Int))=True:=eq_true (P9 _)
 have b3:(M*8<=140737488355328)=True:=eq_true (by omega)
 have c1:(0<=(X.length:Int))=True:=eq_true (by omega)
 have c2:((X.length:Int)<(N:Int))=True:=eq_true (by omega)
 have c3:∀ n:Nat,(0<=n)=True:=fun n=>eq_true (A5 n)
 have c4:(X.length+1<=(List.replicate N V.nils).length)=True:=eq_true (by rw[Oi];omega)
 have e1:List.take X.length (List.replicate N V.nils)++V.sl 1 0 0 M 1 true::List.drop (X.length+1) (List.replicate N V.nils)=Du X.length Y.length X.length:=by
  rw[Yr (by rw[Oi];omega),hN,hM]
  exact Aom _ _
 simp only[go_sem,hXl,hYl,w1,w2,w3,a1,a2,a3,b1,b2,b3,c1,c2,c3,c4,Qp,e1]
 rw[hM,Aot X Y]
 refine Cr (α:=Nat) (fun i=>i) (fun i=>[(0,SL z1 t1 (X.map fun x=>[V.str x])),(1,SL z2 t2 (Y.map fun x=>[V.str x])),(5,.sl 0 0 0 N 1 true),(6,.int .i64 ((i:Int) - 1))]) (fun i=>Eg 37 3 X.length Y.length i (D2 X Y (X.length - i+1))) (fun i=>i<=X.length) ?_ X.length (Ah _)
 intro i hi ih
 refine Ct (by delta lp101_1;exact rfl) ?_
 cases i with
 | zero=>
  have d0:decide ((0:Int)<=0 - 1)=false:=by decide
  simp only[go_sem,d0]
  unfold Hd
  refine⟨0,37,0,vL X Y,?_,?_,?_,Ayp X Y⟩
  ·rw[Ayo,<-hN]
   rfl
  ·rw[Ayq]
   rfl
  ·have:=Au2 37 3 X Y
   simpa using this
 | succ i=>
 have hi':i<X.length:=hi
 have q1:(((i+1:Nat):Int) - 1)=(i:Int):=by omega
 have q2:X.length - (i+1)+1=X.length - i:=by omega
 have d0:decide ((0:Int)<=(i:Int))=true:=by simp
 simp only[q1,q2]
 generalize hs:Eg 37 3 X.length Y.length (i+1) (D2 X Y (X.length - i))=s
 have hsl:s.length=1+(X.length - i):=by rw[<-hs,Auz,Qo]
 have k0:(s++[Ob.row (List.replicate M (V.int .i64 0)) 3 0 0])[0]?=some (.row (Du X.length Y.length (i+1)) 37 0 0):=by rw[<-hs];rfl
 have g1:(0<=(i:Int))=True:=eq_true (by omega)
 have g2:((i:Int)<(N:Int))=True:=eq_true (by omega)
 have g3:(i+1<=(Du X.length Y.length (i+1)).length)=True:=eq_true (by rw[W1];omega)
 have e2:List.take i (Du X.length Y.length (i+1))++V.sl (1+(X.length - i)) 0 0 M 1 true::List.drop (i+1) (Du X.length Y.length (i+1))=Du X.length Y.length i:=by rw[hM];exact Aos hi'
 have e3:(s++[Ob.row (List.replicate M (V.int .i64 0)) 3 0 0]).set 0 (.row (Du X.length Y.length i) 37 0 0)=Eg 37 3 X.length Y.length i (D2 X Y (X.length - i)++[Cc X Y i Y.length]):=by rw[<-hs,hM];exact Arg X Y _ _ i hi'
 simp only[go_sem,d0,hYl,w2,w4,b1,b2,b3,c3,hsl,k0,g1,g2,g3,Qp,e2,e3]
 refine Cr (α:=Nat) (fun j=>j) (fun j=>[(0,SL z1 t1 (X.map fun x=>[V.str x])),(1,SL z2 t2 (Y.map fun x=>[V.str x])),(5,.sl 0 0 0 N 1 true),(6,.int .i64 (i:Int)),(7,.int .i64 ((j:Int) - 1))]) (fun j=>Eg 37 3 X.length Y.length i (D2 X Y (X.length - i)++[Cc X Y i j])) (fun j=>j<=Y.length) ?_ Y.length (Ah _)
 intro j hj jh
 refine Ct (by delta lp101_0;exact rfl) ?_
 cases j with
 | zero=>
  have d0:decide ((0:Int)<=0 - 1)=false:=by decide
  have w5:IntKind.i64.wrap ((i:Int) - 1)=(i:Int) - 1:=Ed (by omega)
  simp only[go_sem,d0,w5]
  rw[S0,Am4 X Y (Ln hi')]
  exact Bd (ih i (by omega) (by omega)) rfl
 | succ j=>
 have hj':j<Y.length:=hj
 have q3:(((j+1:Nat):Int) - 1)=(j:Int):=by omega
 have d1:decide ((0:Int)<=(j:Int))=true:=by simp
 have jh2:=jh j (Y0 j) (by omega)
 simp only[q3]
 obtain⟨x,hx,-,-⟩:=Eu hi'
 obtain⟨y,hy,-,-⟩:=Eu hj'
 have exy:X[i]=x/\Y[j]=y:=⟨(Au.1 hx).2,(Au.1 hy).2⟩
 have hcc:=Aun X Y hi' hj'
 rw[exy.1,exy.2]at hcc
 have l1:=Xf X Y (i+1) (j+1)
 have r0:(Eg 37 3 X.length Y.length i (D2 X Y (X.length - i)++[Cc X Y i (j+1)]))[1+(X.length - i)]?=some (.row (Az (Cc X Y i (j+1))) 3 0 0):=Abf _ _ _ _ _ (Aon X Y i _)
 have r1:(Eg 37 3 X.length Y.length i (D2 X Y (X.length - i)++[Cc X Y i (j+1)]))[1+(X.length - (i+1))]?=some (.row (Az (Em X Y (i+1))) 3 0 0):=Abf _ _ _ _ _ (Am3 X Y hi' _)
 have r2:(Eg 37 3 X.length Y.length i (D2 X Y (X.length - i)++[Cc X Y i (j+1)]))[0]?=some (.row (Du X.length Y.length i) 37 0 0):=rfl
 have e4:(Eg 37 3 X.length Y.length i (D2 X Y (X.length - i)++[Cc X Y i (j+1)])).set (1+(X.length - i)) (.row (Az (Cc X Y i j)) 3 0 0)=Eg 37 3 X.length Y.length i (D2 X Y (X.length - i)++[Cc X Y i j]):=by rw[Au1,Aoo]
 rw[<-e4]at jh2
 generalize Eg 37 3 X.length Y.length i (D2 X Y (X.length - i)++[Cc X Y i (j+1)])=s2 at *
 have o1:List.take 1 (List.drop i (Du X.length Y.length i))=[.sl (1+(X.length - i)) 0 0 M 1 true]:=by rw[hM];exact Aje (Ah _) (by omega)
 have o2:List.take 1 (List.drop (i+1) (Du X.length Y.length i))=[.sl (1+(X.length - (i+1))) 0 0 M 1 true]:=by rw[hM];exact Aje (by omega) (by omega)
 have o3:(i+1<=(Du X.length Y.length i).length)=True:=eq_true (by rw[W1];omega)
 have o4:(i+1+1<=(Du X.length Y.length i).length)=True:=eq_true (by rw[W1];omega)
 have i1:IntKind.i64.wrap ((i:Int)+1)=((i+1:Nat):Int):=Bq (by omega)
 have i2:(0<=((i+1:Nat):Int))=True:=eq_true (by omega)
 have i3:(((i+1:Nat):Int)<(N:Int))=True:=eq_true (by omega)
 have j0:(0<=(j:Int))=True:=eq_true (by omega)
 have j1:IntKind.i64.wrap ((j:Int)+1)=((j+1:Nat):Int):=Bq (by omega)
 have j2:(0<=((j+1:Nat):Int))=True:=eq_true (by omega)
 have j3:(((j+1:Nat):Int)<(M:Int))=True:=eq_true (by omega)
 have j4:((j:Int)<(M:Int))=True:=eq_true (by omega)
 have j5:IntKind.i64.wrap ((j:Int) - 1)=(j:Int) - 1:=Ed (by omega)
 have m1:(j+1<=(Az (Cc X Y i (j+1))).length)=True:=eq_true (by rw[Id,My];omega)
 have m2:(j+1+1<=(Az (Cc X Y i (j+1))).length)=True:=eq_true (by rw[Id,My];omega)
 have m3:(j+1+1<=(Az (Em X Y (i+1))).length)=True:=eq_true (by rw[Id,Qz];omega)
 have m4:(j+1<=(Az (Em X Y (i+1))).length)=True:=eq_true (by rw[Id,Qz];omega)
 have n1:=O6 (Mz X Y (i:=i+1) (k:=j+1) hj')
 have n2:=O6 (Mz X Y (i:=i+1) (k:=j) (Ln hj'))
 have n3:=O6 (Aaq X Y (i:=i) (j:=j+1) (k:=j+1) hj' (Ah _))
 have e5:List.take j (Az (Cc X Y i (j+1)))++V.int .i64 (Be X Y i j:Int)::List.drop (j+1) (Az (Cc X Y i (j+1)))=Az (Cc X Y i j):=by rw[Q1 (by rw[My];omega),Q0 X Y hj']
 by_cases e:x=y
 ·rw[if_pos e]at hcc
  have f1:(x==y)=true:=by simp[e]
  have f2:IntKind.i64.wrap (1+((Be X Y (i+1) (j+1):Nat):Int))=((Be X Y i j:Nat):Int):=by rw[hcc,Ed (by omega)];rfl
  simp only[go_sem,d1]
  refine Ax (by kernel_rfl) ?_
  simp only[go_sem,A7,hx,hy]
  simp only[go_sem,f1]
  refine Ax (by kernel_rfl) ?_
  simp only[go_sem,r0,r1,r2,o1,o2,o3,o4,g1,g2,i1,i2,i3,j0,j1,j2,j3,j4,m1,m2,m3,m4,n1,n2,n3,c3]
  simp only[go_sem,f2,r0,m1,e5,c3]
  refine W6 (by repeat (first | exact trivial | refine⟨.inl (by rfl),?_⟩ | refine⟨by rfl,?_⟩ | refine⟨.inr ⟨by rfl,by rfl⟩,?_⟩)) (by repeat (first | exact trivial | refine⟨.inl (by rfl),?_⟩ | refine⟨by rfl,?_⟩ | refine⟨.inr ⟨by rfl,by rfl⟩,?_⟩)) ?_
  simp only[go_sem,j5]
  exact Bd jh2 rfl
 ·rw[if_neg e]at hcc
  have f1:(x==y)=false:=by simp[e]
  have f2:max ((Be X Y (i+1) j:Nat):Int) ((Be X Y i (j+1):Nat):Int)=((Be X Y i j:Nat):Int):=by rw[hcc];omega
  simp only[go_sem,d1]
  refine Ax (by kernel_rfl) ?_
  simp only[go_sem,A7,hx,hy]
  simp only[go_sem,f1]
  refine Ax (by kernel_rfl) ?_
  simp only[go_sem,r0,r1,r2,o1,o2,o3,o4,g1,g2,i1,i2,i3,j0,j1,j2,j3,j4,m1,m2,m3,m4,n1,n2,n3,c3]
  simp only[go_sem,f2,r0,m1,e5,c3]
  refine W6 (by repeat (first | exact trivial | refine⟨.inl (by rfl),?_⟩ | refine⟨by rfl,?_⟩ | refine⟨.inr ⟨by rfl,by rfl⟩,?_⟩)) (by repeat (first | exact trivial | refine⟨.inl (by rfl),?_⟩ | refine⟨by rfl,?_⟩ | refine⟨.inr ⟨by rfl,by rfl⟩,?_⟩)) ?_
  simp only[go_sem,j5]
  exact Bd jh2 rfl
/-! the reference's table -/
theorem Aou{n m i:Nat}(hi:i<=n):List.take i (Dv n m i)++V.sl (1+i) 0 0 (m+1) 1 true::List.drop (i+1) (Dv n m i)=Dv n m (i+1):=by
 rw[Yr (by rw[W2];omega)]
 exact Are hi
theorem Ajf{n m i k:Nat}(h:k<i)(hk:k<=n):List.take 1 (List.drop k (Dv n m i))=[.sl (1+k) 0 0 (m+1) 1 true]:=tk1 (Arf h hk)
theorem Arh(OT IT n m M k:Nat):(C4 OT IT n m k (List.replicate k (List.replicate M 0))++[Ob.row (List.replicate M (V.int .i64 0)) IT 0 0]).set 0 (.row (Dv n m (k+1)) OT 0 0)=C4 OT IT n m (k+1) (List.replicate (k+1) (List.replicate M 0)):=by
 rw[Ti,Au4,<-List.replicate_succ']
 rfl
set_option maxHeartbeats 4000000 in
theorem Am9(z1 z2:Bool)(t1 t2:Nat)(X Y:List (List UInt8))(hX:X.length<=1000000)(hY:Y.length<=1000000):Fn TT PT 102 [SL z1 t1 (X.map fun x=>[V.str x]),SL z2 t2 (Y.map fun x=>[V.str x])] (Pp (Ht X Y)):=by
 refine Ake T102 rfl ?_
 have hXl:(X.map fun x=>[V.str x]).length=X.length:=Bg ..
 have hYl:(Y.map fun x=>[V.str x]).length=Y.length:=Bg ..
 obtain⟨N,hN⟩:∃ N,N=X.length+1:=⟨_,rfl⟩
 obtain⟨M,hM⟩:∃ M,M=Y.length+1:=⟨_,rfl⟩
 have w1:IntKind.i64.wrap ((X.length:Int)+1)=(N:Int):=by rw[hN];exact Bq (by omega)
 have w2:IntKind.i64.wrap ((Y.length:Int)+1)=(M:Int):=by rw[hM];exact Bq (by omega)
 have w3:IntKind.i64.wrap ((X.length:Int) - 1)=(X.length:Int) - 1:=Ed (by omega)
 have w4:IntKind.i64.wrap ((Y.length:Int) - 1)=(Y.length:Int) - 1:=Ed (by omega)
 have a1:(0<=(N:Int))=True:=eq_true (by omega)
 have a2:((N:Int)<=(N:Int))=True:=eq_true (P9 _)
 have a3:(N*24<=140737488355328)=True:=eq_true (by omega)
 have b1:(0<=(M:Int))=True:=eq_true (by omega)
 have b2:((M:Int)<=(M:Int))=True:=eq_true (P9 _)
 have b3:(M*8<=140737488355328)=True:=eq_true (by omega)
 have c3:∀ n:Nat,(0<=n)=True:=fun n=>eq_true (A5 n)
 have hst:([.row (List.replicate N V.nils) 37 0 0]:St)=C4 37 3 X.length Y.length 0 (List.replicate 0 (List.replicate M 0)):=by
  unfold C4
  rw[Aop,hN]
  rfl
 simp only[go_sem,hXl,w1,a1,a2,a3,Qp]
 rw[hst]
 refine Cr (α:=Nat) (fun k=>N - k) (fun k=>[(0,SL z1 t1 (X.map fun x=>[V.str x])),(1,SL z2 t2 (Y.map fun x=>[V.str x])),(5,.sl 0 0 0 N 1 true),(14,.int .i64 (N:Int)),(15,.int .i64 (k:Int))]) (fun k=>C4 37 3 X.length Y.length k (List.replicate k (List.replicate M 0))) (fun k=>k<=N) ?_ 0 (A5 _)
 intro k hk kh
 refine Ct (by delta lp102_0;exact rfl) ?_
 rcases B3 k N with hk' | hk'
 ·generalize hs:C4 37 3 X.length Y.length k (List.replicate k (List.replicate M 0))=s
  have hsl:s.length=1+k:=by rw[<-hs,Au3,Oi]
  have k0:(s++[Ob.row (List.replicate M (V.int .i64 0)) 3 0 0])[0]?=some (.row (Dv X.length Y.length k) 37 0 0):=by rw[<-hs];rfl
  have g1:(0<=(k:Int))=True:=eq_true (by omega)
  have g2:((k:Int)<(N:Int))=True:=eq_true (by omega)
  have g3:(k+1<=(Dv X.length Y.length k).length)=True:=eq_true (by rw[W2];omega)
  have e2:List.take k (Dv X.length Y.length k)++V.sl (1+k) 0 0 M 1 true::List.drop (k+1) (Dv X.length Y.length k)=Dv X.length Y.length (k+1):=by rw[hM];exact Aou (by omega)
  have e3:(s++[Ob.row (List.replicate M (V.int .i64 0)) 3 0 0]).set 0 (.row (Dv X.length Y.length (k+1)) 37 0 0)=C4 37 3 X.length Y.length (k+1) (List.replicate (k+1) (List.replicate M 0)):=by rw[<-hs];exact Arh _ _ _ _ _ k
  simp only[go_sem,Cb hk',hYl,w2,b1,b2,b3,c3,hsl,k0,g1,g2,g3,Qp,e2,e3,Bq (show k<9223372036854775807 by omega)]
  exact Bd (kh (k+1) (by omega) hk') rfl
 obtain rfl:k=N:=by omega
 clear kh
 simp only[go_sem,D5 hk',hXl,w3]
 rw[show List.replicate k (List.replicate M (0:Int))=C9 X Y X.length 0 by rw[Amc,hN,hM],hN]
 refine Cr (α:=Nat) (fun i=>i) (fun i=>[(0,SL z1 t1 (X.map fun x=>[V.str x])),(1,SL z2 t2 (Y.map fun x=>[V.str x])),(5,.sl 0 0 0 (X.length+1) 1 true),(7,.int .i64 ((i:Int) - 1))]) (fun i=>C4 37 3 X.length Y.length (X.length+1) (C9 X Y i 0)) (fun i=>i<=X.length) ?_ X.length (Ah _)
 intro i hi ih
 refine Ct (by delta lp102_2;exact rfl) ?_
 cases i with
 | zero=>
  have d0:decide ((0:Int)<=0 - 1)=false:=by decide
  rw[Am7]
  simp only[go_sem,d0]
  unfold Hd
  refine⟨0,37,0,rL X Y,?_,?_,Au5 _ _ _ X Y,Ays X Y⟩
  ·rw[Ayr]
   rfl
  ·rw[Ayt]
   rfl
 | succ i=>
 have hi':i<X.length:=hi
 have q1:(((i+1:Nat):Int) - 1)=(i:Int):=by omega
 have d0:decide ((0:Int)<=(i:Int))=true:=by simp
 have g1:(0<=(i:Int))=True:=eq_true (by omega)
 have g2:((i:Int)<((X.length+1:Nat):Int))=True:=eq_true (by omega)
 simp only[q1]
 rw[Am5 X Y hi']
 simp only[go_sem,d0,hYl,w4]
 refine Cr (α:=Nat) (fun j=>j) (fun j=>[(0,SL z1 t1 (X.map fun x=>[V.str x])),(1,SL z2 t2 (Y.map fun x=>[V.str x])),(5,.sl 0 0 0 (X.length+1) 1 true),(7,.int .i64 (i:Int)),(8,.int .i64 ((j:Int) - 1))]) (fun j=>C4 37 3 X.length Y.length (X.length+1) (C9 X Y i j)) (fun j=>j<=Y.length) ?_ Y.length (Ah _)
 intro j hj jh
 refine Ct (by delta lp102_1;exact rfl) ?_
 cases j with
 | zero=>
  have d0:decide ((0:Int)<=0 - 1)=false:=by decide
  have w5:IntKind.i64.wrap ((i:Int) - 1)=(i:Int) - 1:=Ed (by omega)
  simp only[go_sem,d0,w5]
  exact Bd (ih i (by omega) (by omega)) rfl
 | succ j=>
 have hj':j<Y.length:=hj
 have q3:(((j+1:Nat):Int) - 1)=(j:Int):=by omega
 have d1:decide ((0:Int)<=(j:Int))=true:=by simp
 have jh2:=jh j (Y0 j) (by omega)
 simp only[q3]
 obtain⟨x,hx,-,-⟩:=Eu hi'
 obtain⟨y,hy,-,-⟩:=Eu hj'
 have exy:X[i]=x/\Y[j]=y:=⟨(Au.1 hx).2,(Au.1 hy).2⟩
 have hcc:=Aq1 X Y hi' hj'
 rw[exy.1,exy.2]at hcc
 have l1:=Xf X Y (i+1) (j+1)
 obtain⟨v1,hv1⟩:∃ v1:Int,max ((Be X Y (i+1) j:Nat):Int) ((Be X Y i (j+1):Nat):Int)=v1:=⟨_,rfl⟩
 obtain⟨R1,hR1⟩:∃ R1:List Int,R1=(Cc X Y i (j+1)).set j v1:=⟨_,rfl⟩
 have hR1l:R1.length=Y.length+1:=by rw[hR1,Hx,My]
 have hR1g:R1[j]?=some v1:=by rw[hR1,Cw (by rw[My];omega)]
 have hcur:=Aor X Y (i:=i) (j:=j+1) (Ln hi')
 have hprev:=Am6 X Y (j:=j+1) hi'
 have hrl:=Aoq X Y i (j+1)
 have r0:(C4 37 3 X.length Y.length (X.length+1) (C9 X Y i (j+1)))[1+i]?=some (.row (Az (Cc X Y i (j+1))) 3 0 0):=T7 _ _ _ _ _ hcur
 have r1:(C4 37 3 X.length Y.length (X.length+1) (C9 X Y i (j+1)))[1+(i+1)]?=some (.row (Az (Em X Y (i+1))) 3 0 0):=T7 _ _ _ _ _ hprev
 have r2:(C4 37 3 X.length Y.length (X.length+1) (C9 X Y i (j+1)))[0]?=some (.row (Dv X.length Y.length (X.length+1)) 37 0 0):=rfl
 have e4:(C4 37 3 X.length Y.length (X.length+1) (C9 X Y i (j+1))).set (1+i) (.row (Az R1) 3 0 0)=C4 37 3 X.length Y.length (X.length+1) ((C9 X Y i (j+1)).set i R1):=by rw[Ajd]
 have s0:(C4 37 3 X.length Y.length (X.length+1) ((C9 X Y i (j+1)).set i R1))[1+i]?=some (.row (Az R1) 3 0 0):=T7 _ _ _ _ _ (by rw[Cw (by omega)])
 have s1:(C4 37 3 X.length Y.length (X.length+1) ((C9 X Y i (j+1)).set i R1))[1+(i+1)]?=some (.row (Az (Em X Y (i+1))) 3 0 0):=T7 _ _ _ _ _ (by rw[B5 (by omega)];exact hprev)
 have s2:(C4 37 3 X.length Y.length (X.length+1) ((C9 X Y i (j+1)).set i R1))[0]?=some (.row (Dv X.length Y.length (X.length+1)) 37 0 0):=rfl
 have e6:(C4 37 3 X.length Y.length (X.length+1) ((C9 X Y i (j+1)).set i R1)).set (1+i) (.row (Az (Cc X Y i j)) 3 0 0)=C4 37 3 X.length Y.length (X.length+1) (C9 X Y i j):=by
  rw[Ajd,Oq,<-Af5 X Y (Ln hi') hj',Q0 X Y hj']
 have e7:R1=Cc X Y i j->C4 37 3 X.length Y.length (X.length+1) ((C9 X Y i (j+1)).set i R1)=C4 37 3 X.length Y.length (X.length+1) (C9 X Y i j):=fun h=>by
  rw[h,<-Q0 X Y hj',Af5 X Y (Ln hi') hj']
 generalize C4 37 3 X.length Y.length (X.length+1) ((C9 X Y i (j+1)).set i R1)=s3 at *
 generalize C4 37 3 X.length Y.length (X.length+1) (C9 X Y i (j+1))=s4 at *
 have o1:List.take 1 (List.drop i (Dv X.length Y.length (X.length+1)))=[.sl (1+i) 0 0 M 1 true]:=by rw[hM];exact Ajf (by omega) (by omega)
 have o2:List.take 1 (List.drop (i+1) (Dv X.length Y.length (X.length+1)))=[.sl (1+(i+1)) 0 0 M 1 true]:=by rw[hM];exact Ajf (by omega) (by omega)
 have o3:(i+1<=(Dv X.length Y.length (X.length+1)).length)=True:=eq_true (by rw[W2];omega)
 have o4:(i+1+1<=(Dv X.length Y.length (X.length+1)).length)=True:=eq_true (by rw[W2];omega)
 generalize Dv X.length Y.length (X.length+1)=O at *
 have i1:IntKind.i64.wrap ((i:Int)+1)=((i+1:Nat):Int):=Bq (by omega)
 have i2:(0<=((i+1:Nat):Int))=True:=eq_true (by omega)
 have i3:(((i+1:Nat):Int)<((X.length+1:Nat):Int))=True:=eq_true (by omega)
 have j0:(0<=(j:Int))=True:=eq_true (by omega)
 have j1:IntKind.i64.wrap ((j:Int)+1)=((j+1:Nat):Int):=Bq (by omega)
 have j2:(0<=((j+1:Nat):Int))=True:=eq_true (by omega)
 have j3:(((j+1:Nat):Int)<(M:Int))=True:=eq_true (by omega)
 have j4:((j:Int)<(M:Int))=True:=eq_true (by omega)
 have j5:IntKind.i64.wrap ((j:Int) - 1)=(j:Int) - 1:=Ed (by omega)
 have m1:(j+1<=(Az (Cc X Y i (j+1))).length)=True:=eq_true (by rw[Id,My];omega)
 have m2:(j+1+1<=(Az (Cc X Y i (j+1))).length)=True:=eq_true (by rw[Id,My];omega)
 have m3:(j+1+1<=(Az (Em X Y (i+1))).length)=True:=eq_true (by rw[Id,Qz];omega)
 have m4:(j+1<=(Az (Em X Y (i+1))).length)=True:=eq_true (by rw[Id,Qz];omega)
 have m5:(j+1<=(Az R1).length)=True:=eq_true (by rw[Id];omega)
 have n1:=O6 (Mz X Y (i:=i+1) (k:=j+1) hj')
 have n2:=O6 (Mz X Y (i:=i+1) (k:=j) (Ln hj'))
 have n3:=O6 (Aaq X Y (i:=i) (j:=j+1) (k:=j+1) hj' (Ah _))
 have n4:=O6 hR1g
 have e5:List.take j (Az (Cc X Y i (j+1)))++V.int .i64 v1::List.drop (j+1) (Az (Cc X Y i (j+1)))=Az R1:=by rw[Q1 (by rw[My];omega),hR1]
 have e8:List.take j (Az R1)++V.int .i64 (Be X Y i j:Int)::List.drop (j+1) (Az R1)=Az (Cc X Y i j):=by rw[Q1 (by omega),hR1,Oq,Q0 X Y hj']
 simp only[go_sem,d1]
 refine Ax (by kernel_rfl) ?_
 simp only[go_sem,r0,r1,r2,o1,o2,o3,o4,g1,g2,i1,i2,i3,j0,j1,j2,j3,j4,m1,m2,m3,m4,n1,n2,n3,c3]
 simp only[go_sem,hv1,r0,m1,e5,e4,c3]
 refine W6 (by repeat (first | exact trivial | refine⟨.inl (by rfl),?_⟩ | refine⟨by rfl,?_⟩ | refine⟨.inr ⟨by rfl,by rfl⟩,?_⟩)) (by repeat (first | exact trivial | refine⟨.inl (by rfl),?_⟩ | refine⟨by rfl,?_⟩ | refine⟨.inr ⟨by rfl,by rfl⟩,?_⟩)) ?_
 simp only[go_sem]
 by_cases e:x=y
 ·rw[if_pos e]at hcc
  have f1:(x==y)=true:=by simp[e]
  have f2:IntKind.i64.wrap (1+((Be X Y (i+1) (j+1):Nat):Int))=((1+Be X Y (i+1) (j+1):Nat):Int):=by rw[Ed (by omega)];rfl
  have f3:max v1 ((1+Be X Y (i+1) (j+1):Nat):Int)=((Be X Y i j:Nat):Int):=by rw[<-hv1,hcc];omega
  refine Ax (by kernel_rfl) ?_
  simp only[go_sem,A7,hx,hy]
  simp only[go_sem,f1]
  refine Ax (by kernel_rfl) ?_
  simp only[go_sem,s0,s1,s2,o1,o2,o3,o4,g1,g2,i1,i2,i3,j0,j1,j2,j3,j4,m3,m5,n1,n4,c3]
  simp only[go_sem,f2,f3,s0,m5,e8,e6,c3]
  refine W6 (by repeat (first | exact trivial | refine⟨.inl (by rfl),?_⟩ | refine⟨by rfl,?_⟩ | refine⟨.inr ⟨by rfl,by rfl⟩,?_⟩)) (by repeat (first | exact trivial | refine⟨.inl (by rfl),?_⟩ | refine⟨by rfl,?_⟩ | refine⟨.inr ⟨by rfl,by rfl⟩,?_⟩)) ?_
  simp only[go_sem,j5]
  exact Bd jh2 rfl
 ·rw[if_neg e]at hcc
  have f1:(x==y)=false:=by simp[e]
  have hv2:v1=((Be X Y i j:Nat):Int):=by rw[<-hv1,hcc];omega
  rw[<-e7 (by rw[hR1,hv2,Q0 X Y hj'])]at jh2
  refine Ax (by kernel_rfl) ?_
  simp only[go_sem,A7,hx,hy]
  simp only[go_sem,f1,j5]
  exact Bd jh2 rfl
end Go.Proofs.YtcoeikinocflnaaGreatDoor.KM
