/- Walks: the tables of lengths, both sides. -/
import Derived.Test.YtdbnbejffjhdlaaGreatDoorUd
import Derived.Lib.SlicesCompact
set_option linter.all false
namespace Go.Proofs.YtdbnbejffjhdlaaGreatDoor.KM
open Go
def tk1{l:List V}{i:Nat}{x:V}(h:l[i]?=some x):List.take 1 (List.drop i l)=[x]:=by
 obtain⟨h1,h2⟩:=Al.1 h;rw[Gr h1,h2];rfl
def tds{l:List V}{i:Nat}(h:i<l.length)(x:V):List.take i l++x::List.drop (i+1) l=l.set i x:=by
 rw[List.set_eq_take_append_cons_drop,if_pos h]
def Wm(n:Nat)(v:V):(List.replicate n [v]).flatten=List.replicate n v:=by
 induction n with
 | zero=>rfl
 | succ n ih=>rw[Ab4,Fe,ih];rfl
def Mn(l:List Int):(Br l).length=l.length:=by unfold Br;rw[Aj]
def U0{l:List Int}{i:Nat}{x:Int}(h:l[i]?=some x):List.take 1 (List.drop i (Br l))=[iV x]:=tk1 (A8q h)
def Wy{l:List Int}{i:Nat}(h:i<l.length)(x:Int):List.take i (Br l)++iV x::List.drop (i+1) (Br l)=Br (l.set i x):=by
 rw[tds (by rw[Mn];exact h),A8r]
def A4z{n m i:Nat}(hi:i<n):List.take i (E8 n m (i+1))++V.sl (1+(n - i)) 0 0 (m+1) 1 true::List.drop (i+1) (E8 n m (i+1))=E8 n m i:=by
 rw[tds (by rw[Ady];omega)];exact A8s hi
def Avy{n m i k:Nat}(h:i<=k)(hk:k<=n):List.take 1 (List.drop k (E8 n m i))=[.sl (1+(n - k)) 0 0 (m+1) 1 true]:=tk1 (A8t h hk)
def A40(X Y:List (List UInt8))(OT IT:Nat):([.row (E8 X.length Y.length X.length) OT 0 0,.row (List.replicate (Y.length+1) (iV 0)) IT 0 0]:St)=Gq OT IT X.length Y.length X.length (Fv X Y (X.length - X.length+1)):=by
 rw[Hl];unfold Gq Fv;rw[F9,List.range_one,Ahh,Ahh,Yr,Ath,Zm]
def A8w(X Y:List (List UInt8))(OT IT i:Nat)(hi:i<X.length):(Gq OT IT X.length Y.length (i+1) (Fv X Y (X.length - i))++[Ob.row (List.replicate (Y.length+1) (iV 0)) IT 0 0]).set 0 (.row (E8 X.length Y.length i) OT 0 0)=Gq OT IT X.length Y.length i (Fv X Y (X.length - i)++[Dm X Y i Y.length]):=by
 rw[Zm,Bdg,Atg];rfl
set_option maxHeartbeats 4000000 in
def A2p(z1 z2:Bool)(t1 t2:Nat)(X Y:List (List UInt8))(hX:X.length<=1000000)(hY:Y.length<=1000000):Fn TT PT 81 [SL z1 t1 (X.map fun x=>[V.str x]),SL z2 t2 (Y.map fun x=>[V.str x])] (Vq (Ll X Y)):=by
 refine Axs T81 rfl ?_;have qk:(X.map fun x=>[V.str x]).length=X.length:=Aj ..;have qf:(Y.map fun x=>[V.str x]).length=Y.length:=Aj ..;obtain⟨N,hN⟩:∃ N,N=X.length+1:=⟨_,rfl⟩;obtain⟨M,hM⟩:∃ M,M=Y.length+1:=⟨_,rfl⟩;have w1:IntKind.i64.wrap ((X.length:Int)+1)=(N:Int):=by rw[hN];exact Ay AA
 have w2:IntKind.i64.wrap ((Y.length:Int)+1)=(M:Int):=by rw[hM];exact Ay AA
 have w3:IntKind.i64.wrap ((X.length:Int) - 1)=(X.length:Int) - 1:=B7 AA;have w4:IntKind.i64.wrap ((Y.length:Int) - 1)=(Y.length:Int) - 1:=B7 AA;have a1:(0<=(N:Int))=True:=eq_true AA;have a2:((N:Int)<=(N:Int))=True:=eq_true (V9 _);have a3:(N*24<=140737488355328)=True:=eq_true AA;have b1:(0<=(M:Int))=True:=eq_true AA;have b2:((M:Int)<=(M:Int))=True:=eq_true (V9 _);have b3:(M*8<=140737488355328)=True:=eq_true AA;have c1:(0<=(X.length:Int))=True:=eq_true AA;have c2:((X.length:Int)<(N:Int))=True:=eq_true AA;have c3:∀ n:Nat,(0<=n)=True:=fun n=>eq_true (Av n)
 have c4:(X.length+1<=(List.replicate N V.nils).length)=True:=eq_true (by rw[Qo];omega)
 have e1:List.take X.length (List.replicate N V.nils)++V.sl 1 0 0 M 1 true::List.drop (X.length+1) (List.replicate N V.nils)=E8 X.length Y.length X.length:=by
  rw[tds (by rw[Qo];omega),hN,hM];exact A4t _ _
 simp only[go_sem,qk,qf,w1,w2,w3,a1,a2,a3,b1,b2,b3,c1,c2,c3,c4,Wm,e1];rw[hM,A40 X Y];refine Bh (α:=Nat) (fun i=>i) (fun i=>[(0,SL z1 t1 (X.map fun x=>[V.str x])),(1,SL z2 t2 (Y.map fun x=>[V.str x])),(5,.sl 0 0 0 N 1 true),(6,iV ((i:Int) - 1))]) (fun i=>Gq 49 3 X.length Y.length i (Fv X Y (X.length - i+1))) (fun i=>i<=X.length) ?_ X.length (An _);intro i hi ih;refine Az Bmf ?_
 cases i with
 | zero=>
  have d0:decide ((0:Int)<=0 - 1)=false:=by decide
  simp only[go_sem,d0];unfold Hd;refine⟨0,49,0,vL X Y,?_,?_,?_,Big X Y⟩
  .rw[Bif,<-hN];rfl
  .rw[Bih];rfl
  .have:=Bdi 49 3 X Y;simpa using this
 | succ i=>
 have qb:i<X.length:=hi;have q1:(((i+1:Nat):Int) - 1)=(i:Int):=by omega
 have q2:X.length - (i+1)+1=X.length - i:=by omega
 have d0:decide ((0:Int)<=(i:Int))=true:=by simp
 simp only[q1,q2];generalize hs:Gq 49 3 X.length Y.length (i+1) (Fv X Y (X.length - i))=s;have jj:s.length=1+(X.length - i):=by rw[<-hs,Bdf,Aiy]
 have k0:(s++[Ob.row (List.replicate M (iV 0)) 3 0 0])[0]?=some (.row (E8 X.length Y.length (i+1)) 49 0 0):=by rw[<-hs];rfl
 have g1:(0<=(i:Int))=True:=eq_true AA;have g2:((i:Int)<(N:Int))=True:=eq_true AA;have g3:(i+1<=(E8 X.length Y.length (i+1)).length)=True:=eq_true (by rw[Ady];omega);have e2:List.take i (E8 X.length Y.length (i+1))++V.sl (1+(X.length - i)) 0 0 M 1 true::List.drop (i+1) (E8 X.length Y.length (i+1))=E8 X.length Y.length i:=by rw[hM];exact A4z qb
 have e3:(s++[Ob.row (List.replicate M (iV 0)) 3 0 0]).set 0 (.row (E8 X.length Y.length i) 49 0 0)=Gq 49 3 X.length Y.length i (Fv X Y (X.length - i)++[Dm X Y i Y.length]):=by rw[<-hs,hM];exact A8w X Y _ _ i qb
 simp only[go_sem,d0,qf,w2,w4,b1,b2,b3,c3,jj,k0,g1,g2,g3,Wm,e2,e3];refine Bh (α:=Nat) (fun j=>j) (fun j=>[(0,SL z1 t1 (X.map fun x=>[V.str x])),(1,SL z2 t2 (Y.map fun x=>[V.str x])),(5,.sl 0 0 0 N 1 true),(6,iV (i:Int)),(7,iV ((j:Int) - 1))]) (fun j=>Gq 49 3 X.length Y.length i (Fv X Y (X.length - i)++[Dm X Y i j])) (fun j=>j<=Y.length) ?_ Y.length (An _);intro j hj jh;refine Az Bme ?_
 cases j with
 | zero=>
  have d0:decide ((0:Int)<=0 - 1)=false:=by decide
  have w5:IntKind.i64.wrap ((i:Int) - 1)=(i:Int) - 1:=B7 AA;simp only[go_sem,d0,w5];rw[Y5,A2l X Y (Qt qb)];exact Am (ih i AA AA) rfl
 | succ j=>
 have qg:j<Y.length:=hj;have q3:(((j+1:Nat):Int) - 1)=(j:Int):=by omega
 have d1:decide ((0:Int)<=(j:Int))=true:=by simp
 have qr:=jh j (V4 j) AA;simp only[q3];obtain⟨x,hx,-,-⟩:=Bl qb;obtain⟨y,hy,-,-⟩:=Bl qg;have qy:X[i]=x/\Y[j]=y:=⟨(Al.1 hx).2,(Al.1 hy).2⟩;have ql:=Bda X Y qb qg;rw[qy.1,qy.2]at ql;have l1:=Aeu X Y (i+1) (j+1);have r0:(Gq 49 3 X.length Y.length i (Fv X Y (X.length - i)++[Dm X Y i (j+1)]))[1+(X.length - i)]?=some (.row (Br (Dm X Y i (j+1))) 3 0 0):=Akl _ _ _ _ _ (A4u X Y i _);have r1:(Gq 49 3 X.length Y.length i (Fv X Y (X.length - i)++[Dm X Y i (j+1)]))[1+(X.length - (i+1))]?=some (.row (Br (Gv X Y (i+1))) 3 0 0):=Akl _ _ _ _ _ (A2k X Y qb _);have r2:(Gq 49 3 X.length Y.length i (Fv X Y (X.length - i)++[Dm X Y i (j+1)]))[0]?=some (.row (E8 X.length Y.length i) 49 0 0):=rfl;have e4:(Gq 49 3 X.length Y.length i (Fv X Y (X.length - i)++[Dm X Y i (j+1)])).set (1+(X.length - i)) (.row (Br (Dm X Y i j)) 3 0 0)=Gq 49 3 X.length Y.length i (Fv X Y (X.length - i)++[Dm X Y i j]):=by rw[Bdh,A4v]
 rw[<-e4]at qr;generalize Gq 49 3 X.length Y.length i (Fv X Y (X.length - i)++[Dm X Y i (j+1)])=s2 at *;have o1:List.take 1 (List.drop i (E8 X.length Y.length i))=[.sl (1+(X.length - i)) 0 0 M 1 true]:=by rw[hM];exact Avy (An _) AA
 have o2:List.take 1 (List.drop (i+1) (E8 X.length Y.length i))=[.sl (1+(X.length - (i+1))) 0 0 M 1 true]:=by rw[hM];exact Avy AA AA
 have o3:(i+1<=(E8 X.length Y.length i).length)=True:=eq_true (by rw[Ady];omega);have o4:(i+1+1<=(E8 X.length Y.length i).length)=True:=eq_true (by rw[Ady];omega);have i1:IntKind.i64.wrap ((i:Int)+1)=((i+1:Nat):Int):=Ay AA;have i2:(0<=((i+1:Nat):Int))=True:=eq_true AA;have i3:(((i+1:Nat):Int)<(N:Int))=True:=eq_true AA;have j0:(0<=(j:Int))=True:=eq_true AA;have j1:IntKind.i64.wrap ((j:Int)+1)=((j+1:Nat):Int):=Ay AA;have j2:(0<=((j+1:Nat):Int))=True:=eq_true AA;have j3:(((j+1:Nat):Int)<(M:Int))=True:=eq_true AA;have j4:((j:Int)<(M:Int))=True:=eq_true AA;have j5:IntKind.i64.wrap ((j:Int) - 1)=(j:Int) - 1:=B7 AA;have m1:(j+1<=(Br (Dm X Y i (j+1))).length)=True:=eq_true (by rw[Mn,Se];omega);have m2:(j+1+1<=(Br (Dm X Y i (j+1))).length)=True:=eq_true (by rw[Mn,Se];omega);have m3:(j+1+1<=(Br (Gv X Y (i+1))).length)=True:=eq_true (by rw[Mn,Wv];omega);have m4:(j+1<=(Br (Gv X Y (i+1))).length)=True:=eq_true (by rw[Mn,Wv];omega);have n1:=U0 (Sf X Y (i:=i+1) (k:=j+1) qg);have n2:=U0 (Sf X Y (i:=i+1) (k:=j) (Qt qg));have n3:=U0 (Ajj X Y (i:=i) (j:=j+1) (k:=j+1) qg (An _));have e5:List.take j (Br (Dm X Y i (j+1)))++iV (Cc X Y i j:Int)::List.drop (j+1) (Br (Dm X Y i (j+1)))=Br (Dm X Y i j):=by rw[Wy (by rw[Se];omega),Ww X Y qg]
 by_cases e:x=y
 .rw[if_pos e]at ql;have f1:(x==y)=true:=by simp[e]
  have f2:IntKind.i64.wrap (1+((Cc X Y (i+1) (j+1):Nat):Int))=((Cc X Y i j:Nat):Int):=by rw[ql,B7 AA];rfl
  simp only[go_sem,d1];refine Ad AD ?_;simp only[go_sem,Ai,hx,hy];simp only[go_sem,f1];refine Ad AD ?_;simp only[go_sem,r0,r1,r2,o1,o2,o3,o4,g1,g2,i1,i2,i3,j0,j1,j2,j3,j4,m1,m2,m3,m4,n1,n2,n3,c3];simp only[go_sem,f2,r0,m1,e5,c3];refine J6 (by repeat (first | exact trivial | refine⟨.inl AK,?_⟩ | refine⟨by rfl,?_⟩ | refine⟨.inr ⟨by rfl,by rfl⟩,?_⟩)) (by repeat (first | exact trivial | refine⟨.inl AK,?_⟩ | refine⟨by rfl,?_⟩ | refine⟨.inr ⟨by rfl,by rfl⟩,?_⟩)) ?_;simp only[go_sem,j5];exact Am qr rfl
 .rw[if_neg e]at ql;have f1:(x==y)=false:=by simp[e]
  have f2:max ((Cc X Y (i+1) j:Nat):Int) ((Cc X Y i (j+1):Nat):Int)=((Cc X Y i j:Nat):Int):=by rw[ql];omega
  simp only[go_sem,d1];refine Ad AD ?_;simp only[go_sem,Ai,hx,hy];simp only[go_sem,f1];refine Ad AD ?_;simp only[go_sem,r0,r1,r2,o1,o2,o3,o4,g1,g2,i1,i2,i3,j0,j1,j2,j3,j4,m1,m2,m3,m4,n1,n2,n3,c3];simp only[go_sem,f2,r0,m1,e5,c3];refine J6 (by repeat (first | exact trivial | refine⟨.inl AK,?_⟩ | refine⟨by rfl,?_⟩ | refine⟨.inr ⟨by rfl,by rfl⟩,?_⟩)) (by repeat (first | exact trivial | refine⟨.inl AK,?_⟩ | refine⟨by rfl,?_⟩ | refine⟨.inr ⟨by rfl,by rfl⟩,?_⟩)) ?_;simp only[go_sem,j5];exact Am qr rfl
/-! the reference's table -/
def A41{n m i:Nat}(hi:i<=n):List.take i (E9 n m i)++V.sl (1+i) 0 0 (m+1) 1 true::List.drop (i+1) (E9 n m i)=E9 n m (i+1):=by
 rw[tds (by rw[Adz];omega)];exact A8u hi
def Avz{n m i k:Nat}(h:k<i)(hk:k<=n):List.take 1 (List.drop k (E9 n m i))=[.sl (1+k) 0 0 (m+1) 1 true]:=tk1 (A8v h hk)
def A8x(OT IT n m M k:Nat):(Ed OT IT n m k (List.replicate k (List.replicate M 0))++[Ob.row (List.replicate M (iV 0)) IT 0 0]).set 0 (.row (E9 n m (k+1)) OT 0 0)=Ed OT IT n m (k+1) (List.replicate (k+1) (List.replicate M 0)):=by
 rw[Zm,Bdk,<-List.replicate_succ'];rfl
set_option maxHeartbeats 4000000 in
def A2q(z1 z2:Bool)(t1 t2:Nat)(X Y:List (List UInt8))(hX:X.length<=1000000)(hY:Y.length<=1000000):Fn TT PT 98 [SL z1 t1 (X.map fun x=>[V.str x]),SL z2 t2 (Y.map fun x=>[V.str x])] (Vq (Ll X Y)):=by
 refine Axs T98 rfl ?_;have qk:(X.map fun x=>[V.str x]).length=X.length:=Aj ..;have qf:(Y.map fun x=>[V.str x]).length=Y.length:=Aj ..;obtain⟨N,hN⟩:∃ N,N=X.length+1:=⟨_,rfl⟩;obtain⟨M,hM⟩:∃ M,M=Y.length+1:=⟨_,rfl⟩;have w1:IntKind.i64.wrap ((X.length:Int)+1)=(N:Int):=by rw[hN];exact Ay AA
 have w2:IntKind.i64.wrap ((Y.length:Int)+1)=(M:Int):=by rw[hM];exact Ay AA
 have w3:IntKind.i64.wrap ((X.length:Int) - 1)=(X.length:Int) - 1:=B7 AA;have w4:IntKind.i64.wrap ((Y.length:Int) - 1)=(Y.length:Int) - 1:=B7 AA;have a1:(0<=(N:Int))=True:=eq_true AA;have a2:((N:Int)<=(N:Int))=True:=eq_true (V9 _);have a3:(N*24<=140737488355328)=True:=eq_true AA;have b1:(0<=(M:Int))=True:=eq_true AA;have b2:((M:Int)<=(M:Int))=True:=eq_true (V9 _);have b3:(M*8<=140737488355328)=True:=eq_true AA;have c3:∀ n:Nat,(0<=n)=True:=fun n=>eq_true (Av n)
 have jJ:([.row (List.replicate N V.nils) 49 0 0]:St)=Ed 49 3 X.length Y.length 0 (List.replicate 0 (List.replicate M 0)):=by
  unfold Ed;rw[A4w,hN];rfl
 simp only[go_sem,qk,w1,a1,a2,a3,Wm];rw[jJ];refine Bh (α:=Nat) (fun k=>N - k) (fun k=>[(0,SL z1 t1 (X.map fun x=>[V.str x])),(1,SL z2 t2 (Y.map fun x=>[V.str x])),(5,.sl 0 0 0 N 1 true),(14,iV (N:Int)),(15,iV (k:Int))]) (fun k=>Ed 49 3 X.length Y.length k (List.replicate k (List.replicate M 0))) (fun k=>k<=N) ?_ 0 (Av _);intro k hk kh;refine Az Bmq ?_;rcases Bb k N with qc | qc
 .generalize hs:Ed 49 3 X.length Y.length k (List.replicate k (List.replicate M 0))=s;have jj:s.length=1+k:=by rw[<-hs,Bdj,Qo]
  have k0:(s++[Ob.row (List.replicate M (iV 0)) 3 0 0])[0]?=some (.row (E9 X.length Y.length k) 49 0 0):=by rw[<-hs];rfl
  have g1:(0<=(k:Int))=True:=eq_true AA;have g2:((k:Int)<(N:Int))=True:=eq_true AA;have g3:(k+1<=(E9 X.length Y.length k).length)=True:=eq_true (by rw[Adz];omega);have e2:List.take k (E9 X.length Y.length k)++V.sl (1+k) 0 0 M 1 true::List.drop (k+1) (E9 X.length Y.length k)=E9 X.length Y.length (k+1):=by rw[hM];exact A41 AA
  have e3:(s++[Ob.row (List.replicate M (iV 0)) 3 0 0]).set 0 (.row (E9 X.length Y.length (k+1)) 49 0 0)=Ed 49 3 X.length Y.length (k+1) (List.replicate (k+1) (List.replicate M 0)):=by rw[<-hs];exact A8x _ _ _ _ _ k
  simp only[go_sem,Ar qc,qf,w2,b1,b2,b3,c3,jj,k0,g1,g2,g3,Wm,e2,e3,Ay (show k<9223372036854775807 by omega)];exact Am (kh (k+1) AA qc) rfl
 obtain rfl:k=N:=by omega
 clear kh;simp only[go_sem,Bi qc,qk,w3];rw[show List.replicate k (List.replicate M (0:Int))=Ei X Y X.length 0 by rw[A1c,hN,hM],hN];refine Bh (α:=Nat) (fun i=>i) (fun i=>[(0,SL z1 t1 (X.map fun x=>[V.str x])),(1,SL z2 t2 (Y.map fun x=>[V.str x])),(5,.sl 0 0 0 (X.length+1) 1 true),(7,iV ((i:Int) - 1))]) (fun i=>Ed 49 3 X.length Y.length (X.length+1) (Ei X Y i 0)) (fun i=>i<=X.length) ?_ X.length (An _);intro i hi ih;refine Az Bms ?_
 cases i with
 | zero=>
  have d0:decide ((0:Int)<=0 - 1)=false:=by decide
  rw[A2o];simp only[go_sem,d0];unfold Hd;refine⟨0,49,0,rL X Y,?_,?_,Bdl _ _ _ X Y,Bij X Y⟩
  .rw[Bii];rfl
  .rw[Bik];rfl
 | succ i=>
 have qb:i<X.length:=hi;have q1:(((i+1:Nat):Int) - 1)=(i:Int):=by omega
 have d0:decide ((0:Int)<=(i:Int))=true:=by simp
 have g1:(0<=(i:Int))=True:=eq_true AA;have g2:((i:Int)<((X.length+1:Nat):Int))=True:=eq_true AA;simp only[q1];rw[A2m X Y qb];simp only[go_sem,d0,qf,w4];refine Bh (α:=Nat) (fun j=>j) (fun j=>[(0,SL z1 t1 (X.map fun x=>[V.str x])),(1,SL z2 t2 (Y.map fun x=>[V.str x])),(5,.sl 0 0 0 (X.length+1) 1 true),(7,iV (i:Int)),(8,iV ((j:Int) - 1))]) (fun j=>Ed 49 3 X.length Y.length (X.length+1) (Ei X Y i j)) (fun j=>j<=Y.length) ?_ Y.length (An _);intro j hj jh;refine Az Bmr ?_
 cases j with
 | zero=>
  have d0:decide ((0:Int)<=0 - 1)=false:=by decide
  have w5:IntKind.i64.wrap ((i:Int) - 1)=(i:Int) - 1:=B7 AA;simp only[go_sem,d0,w5];exact Am (ih i AA AA) rfl
 | succ j=>
 have qg:j<Y.length:=hj;have q3:(((j+1:Nat):Int) - 1)=(j:Int):=by omega
 have d1:decide ((0:Int)<=(j:Int))=true:=by simp
 have qr:=jh j (V4 j) AA;simp only[q3];obtain⟨x,hx,-,-⟩:=Bl qb;obtain⟨y,hy,-,-⟩:=Bl qg;have qy:X[i]=x/\Y[j]=y:=⟨(Al.1 hx).2,(Al.1 hy).2⟩;have ql:=A8k X Y qb qg;rw[qy.1,qy.2]at ql;have l1:=Aeu X Y (i+1) (j+1);obtain⟨v1,jk⟩:∃ v1:Int,max ((Cc X Y (i+1) j:Nat):Int) ((Cc X Y i (j+1):Nat):Int)=v1:=⟨_,rfl⟩;obtain⟨R1,qB⟩:∃ R1:List Int,R1=(Dm X Y i (j+1)).set j v1:=⟨_,rfl⟩;have jB:R1.length=Y.length+1:=by rw[qB,Jc,Se]
 have qZ:R1[j]?=some v1:=by rw[qB,Bv (by rw[Se];omega)]
 have ja:=A4y X Y (i:=i) (j:=j+1) (Qt qb);have qm:=A2n X Y (j:=j+1) qb;have jP:=A4x X Y i (j+1);have r0:(Ed 49 3 X.length Y.length (X.length+1) (Ei X Y i (j+1)))[1+i]?=some (.row (Br (Dm X Y i (j+1))) 3 0 0):=Aaa _ _ _ _ _ ja;have r1:(Ed 49 3 X.length Y.length (X.length+1) (Ei X Y i (j+1)))[1+(i+1)]?=some (.row (Br (Gv X Y (i+1))) 3 0 0):=Aaa _ _ _ _ _ qm;have r2:(Ed 49 3 X.length Y.length (X.length+1) (Ei X Y i (j+1)))[0]?=some (.row (E9 X.length Y.length (X.length+1)) 49 0 0):=rfl;have e4:(Ed 49 3 X.length Y.length (X.length+1) (Ei X Y i (j+1))).set (1+i) (.row (Br R1) 3 0 0)=Ed 49 3 X.length Y.length (X.length+1) ((Ei X Y i (j+1)).set i R1):=by rw[Avx]
 have s0:(Ed 49 3 X.length Y.length (X.length+1) ((Ei X Y i (j+1)).set i R1))[1+i]?=some (.row (Br R1) 3 0 0):=Aaa _ _ _ _ _ (by rw[Bv AA]);have s1:(Ed 49 3 X.length Y.length (X.length+1) ((Ei X Y i (j+1)).set i R1))[1+(i+1)]?=some (.row (Br (Gv X Y (i+1))) 3 0 0):=Aaa _ _ _ _ _ (by rw[Bk AA];exact qm);have s2:(Ed 49 3 X.length Y.length (X.length+1) ((Ei X Y i (j+1)).set i R1))[0]?=some (.row (E9 X.length Y.length (X.length+1)) 49 0 0):=rfl
 have e6:(Ed 49 3 X.length Y.length (X.length+1) ((Ei X Y i (j+1)).set i R1)).set (1+i) (.row (Br (Dm X Y i j)) 3 0 0)=Ed 49 3 X.length Y.length (X.length+1) (Ei X Y i j):=by
  rw[Avx,Qs,<-Aqr X Y (Qt qb) qg,Ww X Y qg]
 have e7:R1=Dm X Y i j->Ed 49 3 X.length Y.length (X.length+1) ((Ei X Y i (j+1)).set i R1)=Ed 49 3 X.length Y.length (X.length+1) (Ei X Y i j):=fun h=>by
  rw[h,<-Ww X Y qg,Aqr X Y (Qt qb) qg]
 generalize Ed 49 3 X.length Y.length (X.length+1) ((Ei X Y i (j+1)).set i R1)=s3 at *;generalize Ed 49 3 X.length Y.length (X.length+1) (Ei X Y i (j+1))=s4 at *;have o1:List.take 1 (List.drop i (E9 X.length Y.length (X.length+1)))=[.sl (1+i) 0 0 M 1 true]:=by rw[hM];exact Avz AA AA
 have o2:List.take 1 (List.drop (i+1) (E9 X.length Y.length (X.length+1)))=[.sl (1+(i+1)) 0 0 M 1 true]:=by rw[hM];exact Avz AA AA
 have o3:(i+1<=(E9 X.length Y.length (X.length+1)).length)=True:=eq_true (by rw[Adz];omega);have o4:(i+1+1<=(E9 X.length Y.length (X.length+1)).length)=True:=eq_true (by rw[Adz];omega);generalize E9 X.length Y.length (X.length+1)=O at *;have i1:IntKind.i64.wrap ((i:Int)+1)=((i+1:Nat):Int):=Ay AA;have i2:(0<=((i+1:Nat):Int))=True:=eq_true AA;have i3:(((i+1:Nat):Int)<((X.length+1:Nat):Int))=True:=eq_true AA;have j0:(0<=(j:Int))=True:=eq_true AA;have j1:IntKind.i64.wrap ((j:Int)+1)=((j+1:Nat):Int):=Ay AA;have j2:(0<=((j+1:Nat):Int))=True:=eq_true AA;have j3:(((j+1:Nat):Int)<(M:Int))=True:=eq_true AA;have j4:((j:Int)<(M:Int))=True:=eq_true AA;have j5:IntKind.i64.wrap ((j:Int) - 1)=(j:Int) - 1:=B7 AA;have m1:(j+1<=(Br (Dm X Y i (j+1))).length)=True:=eq_true (by rw[Mn,Se];omega);have m2:(j+1+1<=(Br (Dm X Y i (j+1))).length)=True:=eq_true (by rw[Mn,Se];omega);have m3:(j+1+1<=(Br (Gv X Y (i+1))).length)=True:=eq_true (by rw[Mn,Wv];omega);have m4:(j+1<=(Br (Gv X Y (i+1))).length)=True:=eq_true (by rw[Mn,Wv];omega);have m5:(j+1<=(Br R1).length)=True:=eq_true (by rw[Mn];omega);have n1:=U0 (Sf X Y (i:=i+1) (k:=j+1) qg);have n2:=U0 (Sf X Y (i:=i+1) (k:=j) (Qt qg));have n3:=U0 (Ajj X Y (i:=i) (j:=j+1) (k:=j+1) qg (An _));have n4:=U0 qZ;have e5:List.take j (Br (Dm X Y i (j+1)))++iV v1::List.drop (j+1) (Br (Dm X Y i (j+1)))=Br R1:=by rw[Wy (by rw[Se];omega),qB]
 have e8:List.take j (Br R1)++iV (Cc X Y i j:Int)::List.drop (j+1) (Br R1)=Br (Dm X Y i j):=by rw[Wy AA,qB,Qs,Ww X Y qg]
 simp only[go_sem,d1];refine Ad AD ?_;simp only[go_sem,r0,r1,r2,o1,o2,o3,o4,g1,g2,i1,i2,i3,j0,j1,j2,j3,j4,m1,m2,m3,m4,n1,n2,n3,c3];simp only[go_sem,jk,r0,m1,e5,e4,c3];refine J6 (by repeat (first | exact trivial | refine⟨.inl AK,?_⟩ | refine⟨by rfl,?_⟩ | refine⟨.inr ⟨by rfl,by rfl⟩,?_⟩)) (by repeat (first | exact trivial | refine⟨.inl AK,?_⟩ | refine⟨by rfl,?_⟩ | refine⟨.inr ⟨by rfl,by rfl⟩,?_⟩)) ?_;simp only[go_sem];by_cases e:x=y
 .rw[if_pos e]at ql;have f1:(x==y)=true:=by simp[e]
  have f2:IntKind.i64.wrap (1+((Cc X Y (i+1) (j+1):Nat):Int))=((1+Cc X Y (i+1) (j+1):Nat):Int):=by rw[B7 AA];rfl
  have f3:max v1 ((1+Cc X Y (i+1) (j+1):Nat):Int)=((Cc X Y i j:Nat):Int):=by rw[<-jk,ql];omega
  refine Ad AD ?_;simp only[go_sem,Ai,hx,hy];simp only[go_sem,f1];refine Ad AD ?_;simp only[go_sem,s0,s1,s2,o1,o2,o3,o4,g1,g2,i1,i2,i3,j0,j1,j2,j3,j4,m3,m5,n1,n4,c3];simp only[go_sem,f2,f3,s0,m5,e8,e6,c3];refine J6 (by repeat (first | exact trivial | refine⟨.inl AK,?_⟩ | refine⟨by rfl,?_⟩ | refine⟨.inr ⟨by rfl,by rfl⟩,?_⟩)) (by repeat (first | exact trivial | refine⟨.inl AK,?_⟩ | refine⟨by rfl,?_⟩ | refine⟨.inr ⟨by rfl,by rfl⟩,?_⟩)) ?_;simp only[go_sem,j5];exact Am qr rfl
 .rw[if_neg e]at ql;have f1:(x==y)=false:=by simp[e]
  have jK:v1=((Cc X Y i j:Nat):Int):=by rw[<-jk,ql];omega
  rw[<-e7 (by rw[qB,jK,Ww X Y qg])]at qr;refine Ad AD ?_;simp only[go_sem,Ai,hx,hy];simp only[go_sem,f1,j5];exact Am qr rfl
def Ao(l:List Int):List (List V):=l.map fun k=>[iV k]
def F2(l:List Int):(Ao l).length=l.length:=by unfold Ao;rw[Aj]
def Ie(l:List Int):∀ r∈Ao l,r.length=1:=fun r hr=>by obtain⟨x,-,rfl⟩:=Cs.1 hr;rfl
def Pq(l:List Int):∀ r∈Ao l,r.all V.rowB=true:=fun r hr=>by obtain⟨x,-,rfl⟩:=Cs.1 hr;rfl
def Atn{D:List Int}{n i:Nat}(h:D.length=i)(hi:i<n)(v:Int):(D++List.replicate (n - i) 0).set i v=(D++[v])++List.replicate (n - (i+1)) 0:=by
 rw[Qp _ _ AA,h,Hl,show n - i=(n - (i+1))+1 by omega,Ab4,Ab8,Dk];rfl
def A42{D R:List Int}{i:Nat}(h:D.length=i)(u v:Int):((D++[u])++R).set i v=(D++[v])++R:=by
 rw[Dk,Qp _ _ AA,h,Hl,Dk];rfl
def Axt{D:List Int}{n:Nat}{e:Nat}(h:D.length=n):FR (.sl 0 0 0 n 1 true) [.row (Br D) e 0 0] (.lst 0 (Ao D)):=by
 have:=Af2 (σ:=[.row (Br D) e 0 0]) (i:=0) (g:=0) (m:=1) (e:=e) (xs:=Ao D) (by rw[Aqq];rfl) AA (Ie D) (Pq D);rw[F2,h]at this;exact this
set_option maxHeartbeats 4000000 in
def A8y(z1 z2:Bool)(t1 t2:Nat)(X Y:List (List UInt8))(hX:X.length<=4096)(hY:Y.length<=4096):Fn TT PT 47 [SL z1 t1 (X.map fun x=>[V.str x]),SL z2 t2 (Y.map fun x=>[V.str x])] (.lst 0 (Ao (Dn 0 X Y))):=by
 refine Bc T47 rfl ?_;have qk:(X.map fun x=>[V.str x]).length=X.length:=Aj ..;have qf:(Y.map fun x=>[V.str x]).length=Y.length:=Aj ..;have q:=A2p z1 z2 t1 t2 X Y AA AA;unfold Vq at q;have a1:(4096<(X.length:Int))=False:=eq_false AA;have a2:(4096<(Y.length:Int))=False:=eq_false AA;have b1:(0<=(X.length:Int))=True:=eq_true AA;have b2:((X.length:Int)<=(X.length:Int))=True:=eq_true (V9 _);have b3:(X.length*8<=140737488355328)=True:=eq_true AA;have c3:∀ n:Nat,(0<=n)=True:=fun n=>eq_true (Av n)
 simp only[go_sem,qk,qf,a1,a2];refine Ab q AB ?_;simp only[go_sem,qk,b1,b2,b3,Wm,Zm];refine Bh (α:=Nat × Nat × List Int) (fun a=>X.length - a.1) (fun a=>[(0,SL z1 t1 (X.map fun x=>[V.str x])),(1,SL z2 t2 (Y.map fun x=>[V.str x])),(5,.lst 0 ((Ll X Y).map fun r=>[V.lst 0 (r.map fun x=>[iV x])])),(6,.sl 0 0 0 X.length 1 true),(7,iV (a.2.1:Int)),(25,iV (X.length:Int)),(26,iV (a.1:Int))]) (fun a=>[.row (Br (a.2.2++List.replicate (X.length - a.1) 0)) 3 0 0]) (fun a=>a.1<=X.length/\a.2.1<=Y.length/\a.2.2.length=a.1/\a.2.2++Dn a.2.1 (X.drop a.1) (Y.drop a.2.1)=Dn 0 X Y) ?_ (0,0,[]) ⟨Av _,Av _,rfl,by simp⟩;rintro⟨i,j,D⟩ ⟨hi,hj,hD,hA⟩ ih;simp only at hi hj hD hA ih;refine Az Blu ?_;rcases Bb i X.length with qb | qb;rotate_left
 .obtain rfl:i=X.length:=by omega
  rw[List.drop_length,Dn,Bw]at hA;subst hA;rw[Hl,Ahe,Bw];simp only[go_sem,Bi qb];exact Axt hD
 obtain⟨x,hx,-,-⟩:=Bl qb;have g1:(0<=(i:Int))=True:=eq_true AA;have g2:((i:Int)<(X.length:Int))=True:=eq_true AA;have qW:(D++List.replicate (X.length - i) (0:Int)).length=X.length:=by rw[Aq,Qo];omega
 have m1:(i+1<=(Br (D++List.replicate (X.length - i) 0)).length)=True:=eq_true (by rw[Mn,qW];omega);obtain⟨nx,qw⟩:∃ nx:Int->List Int,∀ v,nx v=(D++[v])++List.replicate (X.length - (i+1)) 0:=⟨_,fun _=>rfl⟩;have e1:∀ v:Int,List.take i (Br (D++List.replicate (X.length - i) 0))++iV v::List.drop (i+1) (Br (D++List.replicate (X.length - i) 0))=Br (nx v):=fun v=>by rw[Wy AA,Atn hD qb,qw]
 have i1:IntKind.i64.wrap ((i:Int)+1)=((i+1:Nat):Int):=Ay AA;simp only[go_sem,Ar qb];refine Bh (α:=Nat) (fun k=>Y.length - k) (fun k=>[(0,SL z1 t1 (X.map fun x=>[V.str x])),(1,SL z2 t2 (Y.map fun x=>[V.str x])),(5,.lst 0 ((Ll X Y).map fun r=>[V.lst 0 (r.map fun x=>[iV x])])),(6,.sl 0 0 0 X.length 1 true),(7,iV (j:Int)),(8,iV (i:Int)),(9,iV (k:Int)),(25,iV (X.length:Int)),(26,iV (i:Int))]) (fun _=>[.row (Br (D++List.replicate (X.length - i) 0)) 3 0 0]) (fun k=>j<=k/\k<=Y.length/\∀ k',j<=k'->k'<k->¬ O8 X Y i j k') ?_ j ⟨An _,hj,fun k' h1 h2=>by omega⟩;rintro k ⟨qu,hk,qe⟩ kh;refine Az Blt ?_;rcases Bb k Y.length with qc | qc;rotate_left
 .obtain rfl:k=Y.length:=by omega
  rw[Ati qb qe]at hA;simp only[go_sem,Bi qc,qf,g1,g2,m1,c3,e1,i1];rw[qw];refine Am (ih (i+1,j,D++[-1]) AH ⟨qb,hj,by simp[hD],?_⟩) rfl;rw[Dk];exact hA
 obtain⟨y,hy,-,-⟩:=Bl qc;have k1:IntKind.i64.wrap ((k:Int)+1)=((k+1:Nat):Int):=Ay AA;by_cases e:x=y;rotate_left
 .have f1:(x==y)=false:=by simp[e]
  simp only[go_sem,Ar qc,qf];refine Ad AD ?_;simp only[go_sem,Ai,hx,hy,f1];simp only[go_sem,k1];refine Am (kh (k+1) AA ⟨by omega,qc,fun k' h1 h2=>?_⟩) rfl;rcases Bb k' k with h | h
  .exact qe k' h1 h
  .obtain rfl:k'=k:=by omega
   intro hh;have:=hh.1;rw[hx,hy]at this;exact e (Iu this)
 have f1:(x==y)=true:=by simp[e]
 have T1:=Adx (Zk X Y (i:=i+1) qb);have T0:=Adx (Zk X Y (i:=i) (Qt qb));have n1:=Age (Sf X Y (i:=i+1) (k:=k+1) qc);have n0:=Age (Sf X Y (i:=i) (k:=j) hj);have l1:=Aeu X Y (i+1) (k+1);have f2:IntKind.i64.wrap (1+((Cc X Y (i+1) (k+1):Nat):Int))=((1+Cc X Y (i+1) (k+1):Nat):Int):=by rw[B7 AA];rfl
 by_cases hh:1+Cc X Y (i+1) (k+1)=Cc X Y i j
 .have f3:(((1+Cc X Y (i+1) (k+1):Nat):Int)==((Cc X Y i j:Nat):Int))=true:=by rw[hh];simp
  have qp:O8 X Y i j k:=⟨by rw[hx,hy,e],hh⟩;rw[Avs qb qu qc qp qe]at hA;simp only[go_sem,Ar qc,qf];refine Ad AD ?_;simp only[go_sem,Ai,hx,hy,f1,i1,k1,T1,T0,n1,n0,f2,f3];simp only[go_sem,g1,g2,m1,c3,e1,k1,i1];rw[qw];refine Am (ih (i+1,k+1,D++[(k:Int)]) AH ⟨qb,qc,by simp[hD],?_⟩) rfl;rw[Dk];exact hA
 .have f3:(((1+Cc X Y (i+1) (k+1):Nat):Int)==((Cc X Y i j:Nat):Int))=false:=by
   rw[beq_eq_false_iff_ne];omega
  simp only[go_sem,Ar qc,qf];refine Ad AD ?_;simp only[go_sem,Ai,hx,hy,f1,i1,k1,T1,T0,n1,n0,f2,f3];refine Am (kh (k+1) AA ⟨by omega,qc,fun k' h1 h2=>?_⟩) rfl;rcases Bb k' k with h | h
  .exact qe k' h1 h
  .obtain rfl:k'=k:=by omega
   exact fun h=>hh h.2
set_option maxHeartbeats 4000000 in
def Bdm(z1 z2:Bool)(t1 t2:Nat)(X Y:List (List UInt8))(hX:X.length<=4096)(hY:Y.length<=4096):Fn TT PT 58 [SL z1 t1 (X.map fun x=>[V.str x]),SL z2 t2 (Y.map fun x=>[V.str x])] (.lst 0 (Ao (Dn 0 X Y))):=by
 refine Bc T58 rfl ?_;have qk:(X.map fun x=>[V.str x]).length=X.length:=Aj ..;have qf:(Y.map fun x=>[V.str x]).length=Y.length:=Aj ..;have q:=A2q z1 z2 t1 t2 X Y AA AA;unfold Vq at q;have b1:(0<=(X.length:Int))=True:=eq_true AA;have b2:((X.length:Int)<=(X.length:Int))=True:=eq_true (V9 _);have b3:(X.length*8<=140737488355328)=True:=eq_true AA;have c3:∀ n:Nat,(0<=n)=True:=fun n=>eq_true (Av n)
 simp only[go_sem];refine Ab q AB ?_;simp only[go_sem,qk,b1,b2,b3,Wm,Zm];refine Bh (α:=Nat × Nat × List Int) (fun a=>X.length - a.1) (fun a=>[(0,SL z1 t1 (X.map fun x=>[V.str x])),(1,SL z2 t2 (Y.map fun x=>[V.str x])),(5,.lst 0 ((Ll X Y).map fun r=>[V.lst 0 (r.map fun x=>[iV x])])),(6,.sl 0 0 0 X.length 1 true),(7,iV (a.2.1:Int)),(17,iV (X.length:Int)),(18,iV (a.1:Int))]) (fun a=>[.row (Br (a.2.2++List.replicate (X.length - a.1) 0)) 3 0 0]) (fun a=>a.1<=X.length/\a.2.1<=Y.length/\a.2.2.length=a.1/\a.2.2++Dn a.2.1 (X.drop a.1) (Y.drop a.2.1)=Dn 0 X Y) ?_ (0,0,[]) ⟨Av _,Av _,rfl,by simp⟩;rintro⟨i,j,D⟩ ⟨hi,hj,hD,hA⟩ ih;simp only at hi hj hD hA ih;refine Az Bl0 ?_;rcases Bb i X.length with qb | qb;rotate_left
 .obtain rfl:i=X.length:=by omega
  rw[List.drop_length,Dn,Bw]at hA;subst hA;rw[Hl,Ahe,Bw];simp only[go_sem,Bi qb];exact Axt hD
 obtain⟨x,hx,-,-⟩:=Bl qb;have g1:(0<=(i:Int))=True:=eq_true AA;have g2:((i:Int)<(X.length:Int))=True:=eq_true AA;have qW:(D++List.replicate (X.length - i) (0:Int)).length=X.length:=by rw[Aq,Qo];omega
 have jz:∀ u:Int,((D++[u])++List.replicate (X.length - (i+1)) (0:Int)).length=X.length:=fun u=>by rw[Aq,Aq,Qo,Hi];omega
 have m1:(i+1<=(Br (D++List.replicate (X.length - i) 0)).length)=True:=eq_true (by rw[Mn,qW];omega);have e1:List.take i (Br (D++List.replicate (X.length - i) 0))++iV (-1)::List.drop (i+1) (Br (D++List.replicate (X.length - i) 0))=Br ((D++[-1])++List.replicate (X.length - (i+1)) 0):=by rw[Wy AA,Atn hD qb]
 obtain⟨L1,qN⟩:∃ L1,L1=(D++[-1])++List.replicate (X.length - (i+1)) (0:Int):=⟨_,rfl⟩;have qV:L1.length=X.length:=by rw[qN];exact jz _
 have m2:(i+1<=(Br L1).length)=True:=eq_true (by rw[Mn,qV];omega);obtain⟨nx,qw⟩:∃ nx:Int->List Int,∀ v,nx v=(D++[v])++List.replicate (X.length - (i+1)) 0:=⟨_,fun _=>rfl⟩;have e2:∀ v:Int,List.take i (Br L1)++iV v::List.drop (i+1) (Br L1)=Br (nx v):=fun v=>by rw[Wy AA,qN,A42 hD,qw]
 rw[<-qN]at e1;have i1:IntKind.i64.wrap ((i:Int)+1)=((i+1:Nat):Int):=Ay AA;simp only[go_sem,Ar qb,g1,g2,m1,c3,e1];refine Bh (α:=Nat) (fun k=>Y.length - k) (fun k=>[(0,SL z1 t1 (X.map fun x=>[V.str x])),(1,SL z2 t2 (Y.map fun x=>[V.str x])),(5,.lst 0 ((Ll X Y).map fun r=>[V.lst 0 (r.map fun x=>[iV x])])),(6,.sl 0 0 0 X.length 1 true),(7,iV (j:Int)),(8,iV (i:Int)),(9,iV (k:Int)),(17,iV (X.length:Int)),(18,iV (i:Int))]) (fun _=>[.row (Br L1) 3 0 0]) (fun k=>j<=k/\k<=Y.length/\∀ k',j<=k'->k'<k->¬ O8 X Y i j k') ?_ j ⟨An _,hj,fun k' h1 h2=>by omega⟩;rintro k ⟨qu,hk,qe⟩ kh;refine Az Blz ?_;rcases Bb k Y.length with qc | qc;rotate_left
 .obtain rfl:k=Y.length:=by omega
  rw[Ati qb qe]at hA;simp only[go_sem,Bi qc,qf,i1];rw[qN];refine Am (ih (i+1,j,D++[-1]) AH ⟨qb,hj,by simp[hD],?_⟩) rfl;rw[Dk];exact hA
 obtain⟨y,hy,-,-⟩:=Bl qc;have k1:IntKind.i64.wrap ((k:Int)+1)=((k+1:Nat):Int):=Ay AA;by_cases e:x=y;rotate_left
 .have f1:(x==y)=false:=by simp[e]
  simp only[go_sem,Ar qc,qf];refine Ad AD ?_;simp only[go_sem,Ai,hx,hy,f1];simp only[go_sem,k1];refine Am (kh (k+1) AA ⟨by omega,qc,fun k' h1 h2=>?_⟩) rfl;rcases Bb k' k with h | h
  .exact qe k' h1 h
  .obtain rfl:k'=k:=by omega
   intro hh;have:=hh.1;rw[hx,hy]at this;exact e (Iu this)
 have f1:(x==y)=true:=by simp[e]
 have T1:=Adx (Zk X Y (i:=i+1) qb);have T0:=Adx (Zk X Y (i:=i) (Qt qb));have n1:=Age (Sf X Y (i:=i+1) (k:=k+1) qc);have n0:=Age (Sf X Y (i:=i) (k:=j) hj);have l1:=Aeu X Y (i+1) (k+1);have f2:IntKind.i64.wrap (1+((Cc X Y (i+1) (k+1):Nat):Int))=((1+Cc X Y (i+1) (k+1):Nat):Int):=by rw[B7 AA];rfl
 by_cases hh:1+Cc X Y (i+1) (k+1)=Cc X Y i j
 .have f3:(((1+Cc X Y (i+1) (k+1):Nat):Int)==((Cc X Y i j:Nat):Int))=true:=by rw[hh];simp
  have qp:O8 X Y i j k:=⟨by rw[hx,hy,e],hh⟩;rw[Avs qb qu qc qp qe]at hA;simp only[go_sem,Ar qc,qf];refine Ad AD ?_;simp only[go_sem,Ai,hx,hy,f1,i1,k1,T1,T0,n1,n0,f2,f3];simp only[go_sem,g1,g2,m2,c3,e2,k1,i1];rw[qw];refine Am (ih (i+1,k+1,D++[(k:Int)]) AH ⟨qb,qc,by simp[hD],?_⟩) rfl;rw[Dk];exact hA
 .have f3:(((1+Cc X Y (i+1) (k+1):Nat):Int)==((Cc X Y i j:Nat):Int))=false:=by
   rw[beq_eq_false_iff_ne];omega
  simp only[go_sem,Ar qc,qf];refine Ad AD ?_;simp only[go_sem,Ai,hx,hy,f1,i1,k1,T1,T0,n1,n0,f2,f3];refine Am (kh (k+1) AA ⟨by omega,qc,fun k' h1 h2=>?_⟩) rfl;rcases Bb k' k with h | h
  .exact qe k' h1 h
  .obtain rfl:k'=k:=by omega
   exact fun h=>hh h.2
def Bdn{keep:List Nat}{c:AC}{id:Nat}{k:List It}{e:Env}{σ:St}{Q:Env->St->Prop}(P:Env->St->Prop)(h1:∀ k',(∀ e σ,P e σ->W TT PT k' e σ Q)->W TT PT (.l keep c::.b id::k') e σ Q)(h2:∀ e σ,P e σ->W TT PT k e σ Q):W TT PT (.l keep c::.b id::k) e σ Q:=h1 k h2
structure PY (p:Gp):Prop where
 px:PX p
 sz:∀ t∈p.thrs,Sp.szs t.body<=4096
def Zn{p:Gp}(h:PX p):(He (H5 p)).length<=1000000000000:=by
 have h1:(He (H5 p)).length=(Ik p).length:=Y6 p.thrs;have h2:(Ik p).length=_:=Aix p.thrs;have h3:=Z5 h.sz;have h4:p.thrs.length*10000<=100000000*10000:=Fl _ h.few;omega
def Aqs{α β:Type}[DecidableEq α][DecidableEq β](P Q:List (β × List α))(i:Nat):(Ih (P.take i) Q).length<=(He P).length:=by
 rw[Ah8];exact Zl P i
def Adb{p:Gp}{i:Nat}{x:Tp}(h:p.thrs[i]?=some x):(H5 p)[i]?=some (x.nm,Sp.hdss x.body):=by
 unfold H5;rw[Ai,h];rfl
def Ac0(p:Gp):(H5 p).length=p.thrs.length:=by unfold H5;rw[Aj]
def Av0{α:Type}[DecidableEq α]{X Y:List α}{m:Nat}{v:Int}(h:(Dn 0 X Y)[m]?=some v): -1<=v/\v<Y.length:=by
 rcases Adv X 0 Y m v h with rfl | ⟨k,rfl,h1,-⟩
 .omega
 .omega
def Aqt{b:Nat}{A:List Int}{m:Nat}{v:Int}(h:A[m]?=some v):Jm b (A.take (m+1))=Jm b (A.take m)++[if 0<=v then v+b else v]:=by
 unfold Jm;rw[Hk,h,Pf,Dl,Ahh]
def Adc(a b:List Int):Ao (a++b)=Ao a++Ao b:=by unfold Ao;rw[Dl]
structure MQ (p q:Gp) (s:St) (u:V) (L:List Int):Prop where
 gw:GW s 1 3 2 u (Ao L)
 s0:s[0]?=some (gO p)
 s1:s[1]?=some (gO q)
def Aln{p q:Gp}{s:St}{u:V}{L:List Int}(h:MQ p q s u L):2<=s.length:=(Al.1 h.s1).1
def Akm{p q:Gp}{s:St}{u:V}{L:List Int}(h:MQ p q s u L)(l:St):MQ p q (s++l) u L:=⟨H0 h.gw,Bs h.s0,Bs h.s1⟩
def Alo{p q:Gp}{s:St}{u:V}{L:List Int}(h:MQ p q s u L)(v:Int)(hb:L.length<=2000000000000):∃ u' s',Dz 8 (1,3) u (.lst 1 [[iV v]]) s=some (u',s')/\MQ p q s' u' (L++[v])/\u'.cellB=true:=by
 have hl:=Aln h;obtain⟨u',s',ha,g',l',kp,-,-⟩:=Mp (bytes:=8) (y:=.lst 1 [[iV v]]) (ys:=[[iV v]]) h.gw AA rfl AA (Ie _) AE AQ (by rw[F2];simp only[Hi];omega);refine⟨u',s',ha,⟨?_,?_,?_⟩,Bx g'⟩
 .rw[Adc];exact g'
 .rw[kp 0 AA fun e=>by have:=(C1 h.gw 0 e).1;omega];exact h.s0
 .rw[kp 1 AA fun e=>by have:=(C1 h.gw 1 e).1;omega];exact h.s1
def Axu{p q:Gp}{s:St}{u:V}{L:List Int}(h:MQ p q s u L):FR u s (SL true 0 (Ao L)):=Rb h.gw AA (Ie L) (Pq L)
set_option maxHeartbeats 4000000 in
def Aqu{p q:Gp}(hp:PY p)(hq:PY q):Fn TT PT 16 [.agg p.row,.agg q.row] (SL true 0 (Ao (Fr p q))):=by
 have ll:=Zn hp.px;have lq:=Zn hq.px;have jD:=hp.px.few;have jE:=hq.px.few;have qz:=Aiw hp.px;have qA:=Aiw hq.px;have jf:=P6 p;have jg:=P6 q;have qH:=D7 p;have qI:=D7 q;have jd:(p.thrs.map Co).length=p.thrs.length:=Aj ..;have je:(q.thrs.map Tp.row).length=q.thrs.length:=Aj ..;rw[qH]at qz jf ⊢;rw[qI]at qA jg ⊢;refine Bc T16 rfl ?_;have m0:MQ p q [gO p,gO q] .nils []:=⟨De,rfl,rfl⟩;simp only[go_sem];refine Ad AD ?_;simp only[go_sem];refine Ax qz AB ?_;simp only[go_sem];refine Ax qA AB ?_;simp only[go_sem,jd];unfold Fr;generalize hP:H5 p=P at *;generalize hQ:H5 q=Q at *;refine Bh (α:=Nat × St × V) (fun a=>p.thrs.length - a.1) (fun a=>[(2,.ptr 0 0 0),(3,.ptr 1 0 0),(6,.lst 0 (q.thrs.map Co)),(7,a.2.2),(20,.lst 0 (p.thrs.map Co)),(21,iV (p.thrs.length:Int)),(22,iV (a.1:Int))]) (fun a=>a.2.1) (fun a=>a.1<=p.thrs.length/\MQ p q a.2.1 a.2.2 (Ih (P.take a.1) Q)) ?_ (0,_,.nils) ⟨Av _,m0⟩;clear m0;rintro⟨i,s,u⟩ ⟨hi,hm⟩ ih;simp only at hi hm ih;refine Az Bk1 ?_;rcases Bb i p.thrs.length with qb | qb;rotate_left
 .have jb:i=p.thrs.length:=by omega
  have qO:P.length=p.thrs.length:=by rw[<-hP,Ac0]
  rw[jb,<-qO,Dg]at hm;simp only[go_sem,Bi qb];exact Axu hm
 obtain⟨x,hx,-,jl⟩:=Bl qb;have qx:=P5 x;have qY:P[i]?=some (x.nm,Sp.hdss x.body):=by rw[<-hP];exact Adb hx
 have qk:((Sp.hdss x.body).map fun x=>[V.str x]).length=(Sp.hdss x.body).length:=Aj ..;have jm:(Sp.hdss x.body).length<=4096:=by rw[Je];exact hp.sz x jl
 have qQ:Co x=[SL true 0 ((Sp.hdss x.body).map fun x=>[V.str x])]:=rfl;have qR:=Aoo Q qY;generalize hX:Sp.hdss x.body=X at *;have i1:IntKind.i64.wrap ((i:Int)+1)=((i+1:Nat):Int):=Ay AA;have qC:=Bx hm.gw;have qF:=hm.s0;have qi:=hm.s1;simp only[go_sem,Ar qb,Ai,hx,qQ,qi,je];refine Bdn (fun e s'=>∃ (k:Nat) (v:V) (b:Nat) (Y:List (List UInt8)),e=[(2,.ptr 0 0 0),(3,.ptr 1 0 0),(6,.lst 0 (q.thrs.map Co)),(7,u),(8,iV (i:Int)),(9,SL true 0 (X.map fun x=>[V.str x])),(10,iV (b:Int)),(11,v),(20,.lst 0 (p.thrs.map Co)),(21,iV (p.thrs.length:Int)),(22,iV (i:Int)),(28,SL q.tz q.tt (q.thrs.map Tp.row)),(29,iV (q.thrs.length:Int)),(30,iV (k:Int))]/\v=SL true 0 (Y.map fun x=>[V.str x])/\Y.length<=4096/\b<=(He Q).length/\Jv (x.nm,X) Q=Jm b (Dn 0 X Y)/\MQ p q s' u (Ih (P.take i) Q)) ?_ ?_
 .intro k' qc;refine Bh (α:=Nat × St) (fun a=>q.thrs.length - a.1) (fun a=>[(2,.ptr 0 0 0),(3,.ptr 1 0 0),(6,.lst 0 (q.thrs.map Co)),(7,u),(8,iV (i:Int)),(9,SL true 0 (X.map fun x=>[V.str x])),(10,iV ((Gg Q a.1:Nat):Int)),(11,.nils),(20,.lst 0 (p.thrs.map Co)),(21,iV (p.thrs.length:Int)),(22,iV (i:Int)),(28,SL q.tz q.tt (q.thrs.map Tp.row)),(29,iV (q.thrs.length:Int)),(30,iV (a.1:Int))]) (fun a=>a.2) (fun a=>a.1<=q.thrs.length/\N5 x.nm Q a.1/\MQ p q a.2 u (Ih (P.take i) Q)) ?_ (0,s) ⟨Av _,Atj _ _,hm⟩;clear hm qF qi;clear s;rintro⟨k,s⟩ ⟨hk,qe,hm⟩ kh;simp only at hk qe hm kh;refine Az Bkz ?_;rcases Bb k q.thrs.length with h' | h';rotate_left
  .have qP:k=Q.length:=by rw[<-hQ,Ac0];omega
   rw[qP]at qe;have:=(Aqp (s:=X) qe).2;simp only[go_sem,Bi h'];exact qc _ _ ⟨k,.nils,Gg Q k,[],rfl,by simp[SL],by simp,Zl Q k,by rw[qP];exact this,hm⟩
  obtain⟨y,hy,-,qK⟩:=Bl h';have qq:=P5 y;have qo:Q[k]?=some (y.nm,Sp.hdss y.body):=by rw[<-hQ];exact Adb hy
  have qf:((Sp.hdss y.body).map fun x=>[V.str x]).length=(Sp.hdss y.body).length:=Aj ..;have qS:(Sp.hdss y.body).length<=4096:=by rw[Je];exact hq.sz y qK
  have qh:Co y=[SL true 0 ((Sp.hdss y.body).map fun x=>[V.str x])]:=rfl;have qv:=Aia qo;have jq:=Zl Q k;simp only at qv;generalize hY:Sp.hdss y.body=Y at *;have qD:=Aln hm;have k1:IntKind.i64.wrap ((k:Int)+1)=((k+1:Nat):Int):=Ay AA;have w1:IntKind.i64.wrap (((Gg Q k:Nat):Int)+(Y.length:Int))=((Gg Q (k+1):Nat):Int):=by rw[qv,B7 AA];rfl
  have qd:=Akm hm [tO y];obtain⟨s',e'⟩:∃ s':St,s'=s++[tO y]:=⟨_,rfl⟩;have qs:s'[s.length]?=some (tO y):=by rw[e'];simp
  rw[<-e']at qd;have jt:=qd.s0;by_cases e:y.nm=x.nm
  .have f1:(y.nm==x.nm)=true:=by simp[e]
   simp only[go_sem,Ar h',Ai,hy,qq];rw[<-e'];refine Ad AD ?_;simp only[go_sem,qs,jt,Ai,hx,qx];simp only[go_sem,f1,Ai,hy,qh];exact qc _ _ ⟨k,_,Gg Q k,Y,rfl,rfl,qS,jq,Atl qe qo e,qd⟩
  .have f1:(y.nm==x.nm)=false:=by simp[e]
   simp only[go_sem,Ar h',Ai,hy,qq];rw[<-e'];refine Ad AD ?_;simp only[go_sem,qs,jt,Ai,hx,qx];simp only[go_sem,f1,Ai,hy,qh,qf,w1,k1];exact Am (kh (k+1,s') AH ⟨h',Atk qe qo e,qd⟩) rfl
 clear hm qF qi;clear s;rintro _ s ⟨k,v,b,Y,rfl,rfl,qf,hb,qj,hm⟩;have qa:=A8y true true 0 0 X Y jm qf;have qU:(Dn 0 X Y).length=X.length:=Z6 X 0 Y;generalize hA:Dn 0 X Y=A at *;have qt:(Ao A).length=X.length:=by rw[F2,qU]
 simp only[go_sem];refine Ab qa AB ?_;simp only[go_sem,qt];refine Bh (α:=Nat × St × V) (fun a=>X.length - a.1) (fun a=>[(2,.ptr 0 0 0),(3,.ptr 1 0 0),(6,.lst 0 (q.thrs.map Co)),(7,a.2.2),(10,iV (b:Int)),(20,.lst 0 (p.thrs.map Co)),(21,iV (p.thrs.length:Int)),(22,iV (i:Int)),(58,.lst 0 (Ao A)),(59,iV (X.length:Int)),(60,iV (a.1:Int))]) (fun a=>a.2.1) (fun a=>a.1<=X.length/\MQ p q a.2.1 a.2.2 (Ih (P.take i) Q++Jm b (A.take a.1))) ?_ (0,s,u) ⟨Av _,by simpa[Jm] using hm⟩;clear hm qC;clear s u;rintro⟨m,s,u⟩ ⟨qG,hm⟩ mh;simp only at qG hm mh;refine Az Bk0 ?_;rcases Bb m X.length with h' | h';rotate_left
 .have qE:m=A.length:=by omega
  rw[qE,Dg,<-qj,<-qR]at hm;simp only[go_sem,Bi h',i1];exact Am (ih (i+1,s,u) AH ⟨qb,hm⟩) rfl
 obtain⟨v,hv⟩:∃ v,A[m]?=some v:=⟨_,Cd AA⟩;have jN:=Av0 (X:=X) (Y:=Y) (m:=m) (by rw[hA];exact hv);have qJ:(Ao A)[m]?=some [iV v]:=by unfold Ao;rw[Ai,hv];rfl
 have ji:=Aqt (b:=b) hv;have m1:IntKind.i64.wrap ((m:Int)+1)=((m+1:Nat):Int):=Ay AA;have jG:=Aqs P Q i
 obtain⟨w,hw⟩:∃ w:Int,w=if 0<=v then v+b else v:=⟨_,rfl⟩
 obtain⟨u',s',ha,qd,jp⟩:=Alo hm w (by rw[Aq];unfold Jm;rw[Aj,D5];omega);rw[Dk,hw,<-ji]at qd;by_cases h0:0<=v
 .have f1:decide (0<=v)=true:=by simp[h0]
  have f2:IntKind.i64.wrap (v+(b:Int))=w:=by rw[hw,if_pos h0,B7 AA]
  simp only[go_sem,Ar h',qJ,f1,f2,ha,m1];exact Am (mh (m+1,s',u') AH ⟨h',qd⟩) rfl
 .have f1:decide (0<=v)=false:=by simp[h0]
  have f2:w=v:=by rw[hw,if_neg h0]
  rw[f2]at ha;simp only[go_sem,Ar h',qJ,f1,ha,m1];exact Am (mh (m+1,s',u') AH ⟨h',qd⟩) rfl
def A43{q:Gp}{j:Nat}{r:List UInt8 × List (List UInt8)}(h:(H5 q)[j]?=some r):∃ y,q.thrs[j]?=some y/\r=(y.nm,Sp.hdss y.body):=by
 unfold H5 at h;rw[Ai]at h;obtain⟨y,hy,rfl⟩:=Cg.1 h;exact⟨y,hy,rfl⟩
set_option maxHeartbeats 8000000 in
def A44{p q:Gp}(hp:PY p)(hq:PY q):Fn TT PT 28 [.agg p.row,.agg q.row] (SL true 0 (Ao (Fr p q))):=by
 have ll:=Zn hp.px;have lq:=Zn hq.px;have jD:=hp.px.few;have jE:=hq.px.few;obtain⟨zp,qz⟩:=Aiv hp.px;obtain⟨zq,qA⟩:=Aiv hq.px;have jf:=P6 p;have jg:=P6 q;have qH:=D7 p;have qI:=D7 q;have jd:(p.thrs.map Tp.row).length=p.thrs.length:=Aj ..;have je:(q.thrs.map Tp.row).length=q.thrs.length:=Aj ..;rw[qH]at qz jf ⊢;rw[qI]at qA jg ⊢;refine Bc T28 rfl ?_;have m0:MQ p q [gO p,gO q] .nils []:=⟨De,rfl,rfl⟩;simp only[go_sem];refine Ad AD ?_;simp only[go_sem];refine Ax qz AB ?_;simp only[go_sem];refine Ax qA AB ?_;simp only[go_sem,jd];unfold Fr;generalize hP:H5 p=P at *;generalize hQ:H5 q=Q at *;refine Bh (α:=Nat × St × V) (fun a=>p.thrs.length - a.1) (fun a=>[(3,.ptr 1 0 0),(5,SL zp 0 (p.thrs.map Co)),(6,SL zq 0 (q.thrs.map Co)),(7,a.2.2),(21,SL p.tz p.tt (p.thrs.map Tp.row)),(22,iV (p.thrs.length:Int)),(23,iV (a.1:Int))]) (fun a=>a.2.1) (fun a=>a.1<=p.thrs.length/\MQ p q a.2.1 a.2.2 (Ih (P.take a.1) Q)) ?_ (0,_,.nils) ⟨Av _,m0⟩;clear m0;rintro⟨i,s,u⟩ ⟨hi,hm⟩ ih;simp only at hi hm ih;refine Az Blg ?_;rcases Bb i p.thrs.length with qb | qb;rotate_left
 .have jb:i=p.thrs.length:=by omega
  have qO:P.length=p.thrs.length:=by rw[<-hP,Ac0]
  rw[jb,<-qO,Dg]at hm;simp only[go_sem,Bi qb];exact Axu hm
 obtain⟨x,hx,-,jl⟩:=Bl qb;have qx:=P5 x;have qY:P[i]?=some (x.nm,Sp.hdss x.body):=by rw[<-hP];exact Adb hx
 have qk:((Sp.hdss x.body).map fun x=>[V.str x]).length=(Sp.hdss x.body).length:=Aj ..;have jm:(Sp.hdss x.body).length<=4096:=by rw[Je];exact hp.sz x jl
 have qQ:Co x=[SL true 0 ((Sp.hdss x.body).map fun x=>[V.str x])]:=rfl;have qR:=Aoo Q qY;generalize hX:Sp.hdss x.body=X at *;have i1:IntKind.i64.wrap ((i:Int)+1)=((i+1:Nat):Int):=Ay AA;have qD:=Aln hm;have qd:=Akm hm [tO x];obtain⟨s',e'⟩:∃ s':St,s'=s++[tO x]:=⟨_,rfl⟩;have k9:s'[s.length]?=some (tO x):=by rw[e'];simp
 rw[<-e']at qd;have qi:(s++([tO x]:St))[1]?=some (gO q):=by rw[<-e'];exact qd.s1
 simp only[go_sem,Ar qb,Ai,hx,qx,qi,je];rw[<-e'];clear qi hm e';generalize s.length=n9 at *;clear qD;clear s;refine Bh (α:=Nat × St × Int × Nat) (fun a=>q.thrs.length - a.1) (fun a=>[(3,.ptr 1 0 0),(5,SL zp 0 (p.thrs.map Co)),(6,SL zq 0 (q.thrs.map Co)),(7,u),(8,iV (i:Int)),(9,.ptr n9 0 0),(10,iV (a.2.2.2:Int)),(11,iV a.2.2.1),(21,SL p.tz p.tt (p.thrs.map Tp.row)),(22,iV (p.thrs.length:Int)),(23,iV (i:Int)),(29,SL q.tz q.tt (q.thrs.map Tp.row)),(30,iV (q.thrs.length:Int)),(31,iV (a.1:Int))]) (fun a=>a.2.1) (fun a=>a.1<=q.thrs.length/\FoundR x.nm Q a.1 a.2.2.1 a.2.2.2/\MQ p q a.2.1 u (Ih (P.take i) Q)/\a.2.1[n9]?=some (tO x)) ?_ (0,s',-1,0) ⟨Av _,A2f _ _,qd,k9⟩;clear qd k9;clear s';rintro⟨k,s,f,b⟩ ⟨hk,hf,hm,k9⟩ kh;simp only at hk hf hm k9 kh;refine Az Bld ?_;rcases Bb k q.thrs.length with h' | h'
 .obtain⟨y,hy,-,qK⟩:=Bl h';have qq:=P5 y;have qo:Q[k]?=some (y.nm,Sp.hdss y.body):=by rw[<-hQ];exact Adb hy
  have qf:((Sp.hdss y.body).map fun x=>[V.str x]).length=(Sp.hdss y.body).length:=Aj ..;have qS:(Sp.hdss y.body).length<=4096:=by rw[Je];exact hq.sz y qK
  have qh:Co y=[SL true 0 ((Sp.hdss y.body).map fun x=>[V.str x])]:=rfl;have jq:=Zl Q k;generalize hY:Sp.hdss y.body=Y at *;have k1:IntKind.i64.wrap ((k:Int)+1)=((k+1:Nat):Int):=Ay AA;have qd:=Akm hm [tO y];obtain⟨s',e'⟩:∃ s':St,s'=s++[tO y]:=⟨_,rfl⟩;have qs:(s++([tO y]:St))[s.length]?=some (tO y):=by simp
  have qn:(s++([tO y]:St))[n9]?=some (tO x):=Bs k9
  cases hf with
  | no qe=>
   have qv:=Aia qo;simp only at qv;have w1:IntKind.i64.wrap (((Gg Q k:Nat):Int)+(Y.length:Int))=((Gg Q (k+1):Nat):Int):=by rw[qv,B7 AA];rfl
   by_cases e:y.nm=x.nm
   .have f1:(x.nm==y.nm)=true:=by simp[e]
    have f2:((k:Int)<0)=False:=eq_false AA;simp only[go_sem,Ar h',Ai,hy,qq,qs,qn,f1,f2,k1];exact Am (kh (k+1,_,(k:Int),Gg Q k) AH ⟨h',A4s qe qo e,qd,qn⟩) rfl
   .have f1:(x.nm==y.nm)=false:=by simp;exact fun h=>e h.symm
    simp only[go_sem,Ar h',Ai,hy,qq,qs,qn,f1,qh,qf,w1,k1];exact Am (kh (k+1,_,-1,Gg Q (k+1)) AH ⟨h',by rw[qv];exact A2h qe qo e,qd,qn⟩) rfl
  | @yes j r qu qe hr hrn=>
   have f2:((j:Int)<0)=False:=eq_false AA;have hF:=A2g (.yes qu qe hr hrn);by_cases e:y.nm=x.nm
   .have f1:(x.nm==y.nm)=true:=by simp[e]
    simp only[go_sem,Ar h',Ai,hy,qq,qs,qn,f1,f2,k1];exact Am (kh (k+1,_,(j:Int),Gg Q j) AH ⟨h',hF,qd,qn⟩) rfl
   .have f1:(x.nm==y.nm)=false:=by simp;exact fun h=>e h.symm
    simp only[go_sem,Ar h',Ai,hy,qq,qs,qn,f1,f2,k1];exact Am (kh (k+1,_,(j:Int),Gg Q j) AH ⟨h',hF,qd,qn⟩) rfl
 have qP:k=Q.length:=by rw[<-hQ,Ac0];omega
 have jG:=Aqs P Q i;clear kh k9
 cases hf with
 | no qe=>
  rw[qP]at qe;have qj:=(Aqp (s:=X) qe).1;simp only[go_sem,Bi h',Ai,hx,qQ,qk];refine Bh (α:=Nat × St × V) (fun a=>X.length - a.1) (fun a=>[(3,.ptr 1 0 0),(5,SL zp 0 (p.thrs.map Co)),(6,SL zq 0 (q.thrs.map Co)),(7,a.2.2),(21,SL p.tz p.tt (p.thrs.map Tp.row)),(22,iV (p.thrs.length:Int)),(23,iV (i:Int)),(62,iV (X.length:Int)),(63,iV (a.1:Int))]) (fun a=>a.2.1) (fun a=>a.1<=X.length/\MQ p q a.2.1 a.2.2 (Ih (P.take i) Q++List.replicate a.1 (-1))) ?_ (0,s,u) ⟨Av _,by simpa using hm⟩;clear hm;clear s u;rintro⟨m,s,u⟩ ⟨qG,hm⟩ mh;simp only at qG hm mh;refine Az Ble ?_;rcases Bb m X.length with h2 | h2
  .obtain⟨u',s',ha,qd,jp⟩:=Alo hm (-1) (by rw[Aq,Qo];omega);rw[Dk,<-List.replicate_succ']at qd;have m1:IntKind.i64.wrap ((m:Int)+1)=((m+1:Nat):Int):=Ay AA;simp only[go_sem,Ar h2,ha,m1];exact Am (mh (m+1,s',u') AH ⟨h2,qd⟩) rfl
  .have qE:m=X.length:=by omega
   rw[qE,<-qj,<-qR]at hm;simp only[go_sem,Bi h2,i1];exact Am (ih (i+1,s,u) AH ⟨qb,hm⟩) rfl
 | @yes j r qu qe hr hrn=>
  have js:=hr;rw[<-hQ]at js;obtain⟨y,hy,rfl⟩:=A43 js;have qK:=F0 hy;have qS:(Sp.hdss y.body).length<=4096:=by rw[Je];exact hq.sz y qK
  have qh:Co y=[SL true 0 ((Sp.hdss y.body).map fun x=>[V.str x])]:=rfl;have qj:=Atl (s:=X) qe hr hrn;have hb:=Zl Q j;simp only at qj;generalize hY:Sp.hdss y.body=Y at *;generalize Gg Q j=b at *;have qa:=Bdm true true 0 0 X Y jm qS;have qU:(Dn 0 X Y).length=X.length:=Z6 X 0 Y;generalize hA:Dn 0 X Y=A at *;have qt:(Ao A).length=X.length:=by rw[F2,qU]
  have f2:((j:Int)<0)=False:=eq_false AA;simp only[go_sem,Bi h',f2];refine Ad AD ?_;simp only[go_sem,Ai,hx,qQ,hy,qh];refine Ax qa AB ?_;simp only[go_sem,qt];refine Bh (α:=Nat × St × V) (fun a=>X.length - a.1) (fun a=>[(3,.ptr 1 0 0),(5,SL zp 0 (p.thrs.map Co)),(6,SL zq 0 (q.thrs.map Co)),(7,a.2.2),(10,iV (b:Int)),(21,SL p.tz p.tt (p.thrs.map Tp.row)),(22,iV (p.thrs.length:Int)),(23,iV (i:Int)),(77,.lst 0 (Ao A)),(78,iV (X.length:Int)),(79,iV (a.1:Int))]) (fun a=>a.2.1) (fun a=>a.1<=X.length/\MQ p q a.2.1 a.2.2 (Ih (P.take i) Q++Jm b (A.take a.1))) ?_ (0,s,u) ⟨Av _,by simpa[Jm] using hm⟩;clear hm;clear s u;rintro⟨m,s,u⟩ ⟨qG,hm⟩ mh;simp only at qG hm mh;refine Az Blf ?_;rcases Bb m X.length with h2 | h2;rotate_left
  .have qE:m=A.length:=by omega
   rw[qE,Dg,<-qj,<-qR]at hm;simp only[go_sem,Bi h2,i1];exact Am (ih (i+1,s,u) AH ⟨qb,hm⟩) rfl
  obtain⟨v,hv⟩:∃ v,A[m]?=some v:=⟨_,Cd AA⟩;have jN:=Av0 (X:=X) (Y:=Y) (m:=m) (by rw[hA];exact hv);have qJ:(Ao A)[m]?=some [iV v]:=by unfold Ao;rw[Ai,hv];rfl
  have ji:=Aqt (b:=b) hv;have m1:IntKind.i64.wrap ((m:Int)+1)=((m+1:Nat):Int):=Ay AA
  obtain⟨w,hw⟩:∃ w:Int,w=if 0<=v then v+b else v:=⟨_,rfl⟩
  obtain⟨u',s',ha,qd,jp⟩:=Alo hm w (by rw[Aq];unfold Jm;rw[Aj,D5];omega);rw[Dk,hw,<-ji]at qd;by_cases h0:0<=v
  .have f1:decide (0<=v)=true:=by simp[h0]
   have f2:IntKind.i64.wrap (v+(b:Int))=w:=by rw[hw,if_pos h0,B7 AA]
   simp only[go_sem,Ar h2,qJ,f1,f2,ha,m1];exact Am (mh (m+1,s',u') AH ⟨h2,qd⟩) rfl
  .have f1:decide (0<=v)=false:=by simp[h0]
   have f2:w=v:=by rw[hw,if_neg h0]
   rw[f2]at ha;simp only[go_sem,Ar h2,qJ,f1,ha,m1];exact Am (mh (m+1,s',u') AH ⟨h2,qd⟩) rfl
def Ad0{s:List UInt8}{g:Gp}(h:Ox s=some g):PY g:=by
 obtain⟨a,b,c⟩:=A08 h;exact⟨Bnm a b fun t ht=>by have:=c t ht;omega,c⟩
set_option maxHeartbeats 1000000 in
def A8z(z1 z2:Bool)(t1 t2:Nat)(l:List Int)(hl:l.length<=1000000000000000):Fn TT PT 15 [SL z1 t1 (Ao l),SL z2 t2 (Ao l)] (.bool true):=by
 refine Bc T15 rfl ?_;have jF:=F2 l;simp only[go_sem,jF,bne_self_eq_false];refine Bh (α:=Nat) (fun i=>l.length - i) (fun i=>[(0,SL z1 t1 (Ao l)),(1,SL z2 t2 (Ao l)),(12,iV (l.length:Int)),(13,iV (i:Int))]) (fun _=>[]) (fun i=>i<=l.length) ?_ 0 (Av _);intro i hi ih;refine Az Bky ?_;rcases Bb i l.length with h' | h'
 .obtain⟨x,hx,-,-⟩:=Bl h';have qx:(Ao l)[i]?=some [iV x]:=by unfold Ao;rw[Ai,hx];rfl
  simp only[go_sem,Ar h'];refine Ad AD ?_;simp only[go_sem,qx,bne_self_eq_false];simp only[go_sem,Ay (show i<9223372036854775807 by omega)];exact Am (ih (i+1) AA h') rfl
 .simp only[go_sem,Bi h'];exact Ae rfl rfl
def Av1{s:List UInt8}{g:Gp}{v:V}(h:Ox s=some g)(hv:Yd s v):v=.tup [.agg g.row,iV 0,iV 0]:=by
 unfold Yd at hv;rw[h]at hv;exact hv
def Bdo{a b c:List UInt8}(h1:a≠c)(h2:b≠c)(h3:a≠b):Dn 0 [a,b] [c,a,b]=[1,2]:=by
 have l1:D3 [b] [b]=1:=by simp[Pv,U7]
 have l2:D3 [a,b] [c,a,b]=2:=by simp[Pv,U7,Aav,h1,h2,h3]
 have e1:M5 a [b] [c,a,b]=some 1:=by simp[M5,X6,List.range_succ,List.range_zero,l1,l2,h1.symm]
 have e2:M5 b [] [b]=some 0:=A8j b [];rw[Dn,e1];simp only[Ahd,Jd];rw[Dn,e2];simp[Dn]
def Bo4:(Ox [118,97,114,32,120,59,32,116,104,114,101,97,100,32,109,97,105,110,40,41,32,123,32,120,32,61,32,49,59,32,120,32,61,32,50,59,32,125]).map H5=some [([109,97,105,110],[[120,32,61,32,49,59],[120,32,61,32,50,59]])]:=by kernel_rfl
def Bo5:(Ox [118,97,114,32,120,59,32,116,104,114,101,97,100,32,109,97,105,110,40,41,32,123,32,120,32,61,32,51,59,32,120,32,61,32,49,59,32,120,32,61,32,50,59,32,125]).map H5=some [([109,97,105,110],[[120,32,61,32,51,59],[120,32,61,32,49,59],[120,32,61,32,50,59]])]:=by kernel_rfl
def Bno{p q:Gp}(h1:H5 p=[([109,97,105,110],[[120,32,61,32,49,59],[120,32,61,32,50,59]])])(h2:H5 q=[([109,97,105,110],[[120,32,61,32,51,59],[120,32,61,32,49,59],[120,32,61,32,50,59]])]):Fr p q=[1,2]:=by
 unfold Fr;rw[h1,h2,Aon,show Ih ([]:List (List UInt8 × List (List UInt8))) [([109,97,105,110],[[120,32,61,32,51,59],[120,32,61,32,49,59],[120,32,61,32,50,59]])]=[] from rfl,Bw];unfold Jv Jm;rw[Hc,if_pos rfl];simp only[V2];rw[Bdo AP AP AP];rfl
set_option maxHeartbeats 2000000 in
def Api:Fn TT PT 5 [] (.bool true):=by
 obtain⟨p,hp,sp⟩:=Cg.1 Bo4;obtain⟨q,hq,sq⟩:=Cg.1 Bo5;obtain⟨v,q1,hv⟩:=Adr [118,97,114,32,120,59,32,116,104,114,101,97,100,32,109,97,105,110,40,41,32,123,32,120,32,61,32,49,59,32,120,32,61,32,50,59,32,125];obtain⟨w,q2,hw⟩:=Adr [118,97,114,32,120,59,32,116,104,114,101,97,100,32,109,97,105,110,40,41,32,123,32,120,32,61,32,51,59,32,120,32,61,32,49,59,32,120,32,61,32,50,59,32,125];rw[Av1 hp hv]at q1;rw[Av1 hq hw]at q2;have hm:=Aqu (Ad0 hp) (Ad0 hq);rw[Bno sp sq]at hm;have hs:=A8z true false 0 1 [1,2] AP;rw[show SL false 1 (Ao [1,2])=.lst 1 [[iV 1],[iV 2]] from rfl]at hs;have qH:=D7 p;have qI:=D7 q;rw[qH]at q1 hm;rw[qI]at q2 hm;refine Bc T5 rfl ?_;simp only[go_sem];refine Ab q1 AB ?_;simp only[go_sem];refine Ab q2 AB ?_;simp only[go_sem,beq_self_eq_true];refine Ab hm AB ?_;simp only[go_sem];refine Ab hs AB ?_;simp only[go_sem];exact Ae rfl rfl
def zeroG:Gp:=⟨true,0,[],true,0,[]⟩
def A45:zeroG.row=[.nils,.nils]:=by rw[D7];simp[zeroG,SL]
def Axv{s:List UInt8}{v:V}(h:Yd s v):∃ (g:Gp) (e ln:Int),v=.tup [.agg g.row,iV e,iV ln]/\(e=0->Ox s=some g)/\(e≠0->g=zeroG):=by
 unfold Yd at h
 cases hp:Ox s with
 | some g=>rw[hp]at h;exact⟨g,0,0,h,fun _=>rfl,fun h=>absurd rfl h⟩
 | none=>
  rw[hp]at h;obtain⟨e,ln,he,rfl⟩:=h;exact⟨zeroG,e,ln,by rw[A45],fun h=>absurd h he,fun _=>rfl⟩
def VeR(v:V):Prop:=∃ (A B:Gp) (ok:Bool),v=.tup [.agg A.row,.agg B.row,.bool ok]/\(ok=true->PY A/\PY B/\∃ P,OKp P/\Ox (Ij P)=some A)
def A80{g:V}{kill:List Nat}{x y:AC}{k:List It}{e:Env}{σ:St}{Q:Env->St->Prop}(P:Env->St->Prop)(h1:∀ k',(∀ e σ,P e σ->W TT PT k' e σ Q)->WC TT PT g kill x y k' e σ Q)(h2:∀ e σ,P e σ->W TT PT k e σ Q):WC TT PT g kill x y k e σ Q:=h1 k h2
set_option maxHeartbeats 4000000 in
def A1d(z0 z1 z2:Bool)(t0 t1 t2:Nat)(a b c:List UInt8)(un:Bool)(ha:a.length<=9223372036854775807)(hb:b.length<=9223372036854775807)(hc:c.length<=9223372036854775807):∃ v,Fn TT PT 4 [.agg [SL z0 t0 (B4 a),SL z1 t1 (B4 b),SL z2 t2 (B4 c),.bool un]] v/\VeR v:=by
 obtain⟨P,q1,qL⟩:=As8 z0 t0 a ha;obtain⟨P2,q2,qM⟩:=As8 z2 t2 c hc;have qO:=qL.len;have q3:=Ash (Ak9 qL.sh) AA;obtain⟨v4,q4,jL⟩:=Adr (Ij P);obtain⟨A,eA,lA,rfl,jn,jw⟩:=Axv jL;obtain⟨E,q5,hd,hE⟩:=Bde qL z1 t1 b hb;obtain⟨ju,lE⟩:=Bnn qL hd hE;have jA:=D7 P;have qX:=D7 P2;have qt:=D7 A;have jy:=D7 E;rw[jA]at q1 q3 q5;rw[qX]at q2;rw[qt]at q4;rw[jy]at q5;refine Ame T4 rfl ?_;simp only[go_sem];refine Ab q1 AB ?_;simp only[go_sem];refine Ab q3 AB ?_;simp only[go_sem];refine Ab q4 AB ?_;simp only[go_sem];refine Ad AD ?_;simp only[go_sem];refine Ax q1 AB ?_;simp only[go_sem];refine Ax q5 AB ?_;simp only[go_sem];refine Be ?_;simp only[go_sem];refine Be ?_;simp only[go_sem];refine A80 (fun e s=>∃ R:Gp,(CnG R/\(Ij R).length<=20000000000)/\(e=[(1,.ptr 0 0 0),(2,.ptr 1 0 0),(3,.ptr 2 0 0),(5,.ptr 3 0 0),(8,.ptr 4 0 0)]\/e=[(2,.ptr 1 0 0),(3,.ptr 2 0 0),(5,.ptr 3 0 0),(8,.ptr 4 0 0)])/\s=[.row [SL z0 t0 (B4 a),SL z1 t1 (B4 b),SL z2 t2 (B4 c),.bool un] 24 0 0,.row [.nils,.nils] 29 0 0,.row [.nils,.nils] 29 0 0,gO A,gO R]) ?_ ?_
 .intro k' qc;cases un
  .simp only[go_sem];exact qc _ _ ⟨E,⟨ju,lE⟩,.inl rfl,rfl⟩
  .simp only[go_sem];refine Ab q2 AB ?_;simp only[go_sem];exact qc _ _ ⟨P2,⟨Ak9 qM.sh,by have:=qM.len;omega⟩,.inr rfl,rfl⟩
 rintro _ _ ⟨R,⟨jv,lR⟩,he,rfl⟩;have q6:=Ash jv AA;obtain⟨v7,q7,jM⟩:=Adr (Ij R);obtain⟨B,eB,lB,rfl,jx,jO⟩:=Axv jM;have jC:=D7 R;have jo:=D7 B;have jc:(A.thrs.map Tp.row).length=A.thrs.length:=Aj ..;rw[jC]at q6;rw[jo]at q7
 have qT:∀ ok:Bool,(ok=true->eB=0/\0<A.thrs.length)->VeR (.tup [.agg (gR A),.agg (gR B),.bool ok]):=fun ok h=>by
  refine⟨A,B,ok,by rw[qt,jo],fun jI=>?_⟩;obtain⟨h1,h2⟩:=h jI
  have h3:eA=0:=Decidable.byContradiction fun jH=>by
   have:=jw jH;rw[this]at h2;simp[zeroG]at h2
  exact⟨Ad0 (jn h3),Ad0 (jx h1),P,qL,jn h3⟩
 rcases he with rfl | rfl
 all_goals (
  simp only[go_sem];refine Ab q6 AB ?_;simp only[go_sem];refine Ab q7 AB ?_;simp only[go_sem];by_cases h0:eB=0
  .by_cases h1:0<A.thrs.length
   .have f1:(eB==0)=true:=by simp[h0]
    have f2:(0<(A.thrs.length:Int))=True:=eq_true AA;refine Ad AD ?_;simp only[go_sem,f1,jc,f2];refine Be ?_;simp only[go_sem];refine Be ?_;simp only[go_sem];refine⟨.tup [.agg (gR A),.agg (gR B),.bool true],?_,qT true fun _=>⟨h0,h1⟩⟩;simp only[go_sem];exact Fp AB
   .have f1:(eB==0)=true:=by simp[h0]
    have f2:(0<(A.thrs.length:Int))=False:=eq_false AA;refine Ad AD ?_;simp only[go_sem,f1,jc,f2];refine Be ?_;simp only[go_sem];refine Be ?_;simp only[go_sem];refine⟨.tup [.agg (gR A),.agg (gR B),.bool false],?_,qT false fun h=>by cases h⟩;simp only[go_sem];exact Fp AB
  .have f1:(eB==0)=false:=by simp[h0]
   refine Ad AD ?_;simp only[go_sem,f1,jc];refine Be ?_;simp only[go_sem];refine Be ?_;simp only[go_sem];refine⟨.tup [.agg (gR A),.agg (gR B),.bool false],?_,qT false fun h=>by cases h⟩;simp only[go_sem]
   exact Fp AB)
section
variable {κ:Type} [DecidableEq κ]
def L7:List κ->κ->Option Nat
 | [],_=>none
 | x::l,k=>if x=k then some 0 else(L7 l k).map (·+1)
theorem Wc:∀ {l:List κ} {k:κ} {s:Nat},L7 l k=some s↔l[s]?=some k/\∀ j,j<s->l[j]?≠some k
 | [],k,s=>by simp[L7]
 | x::l,k,s=>by
  rw[L7];by_cases h:x=k
  .rw[if_pos h];constructor
   .grind
   .rintro⟨-,h2⟩
    cases s with
    | zero=>rfl
    | succ s=>exact absurd (by simp[h]) (h2 0 (Nat.succ_pos s))
  .rw[if_neg h]
   cases s with
   | zero=>
    simp_all
   | succ s=>
    constructor
    .intro e
     have e2:L7 l k=some s:=by
      cases hs:L7 l k with
      | none=>grind
      | some a=>grind
     obtain⟨h1,h2⟩:=Wc.1 e2
     grind
    .rintro⟨h1,h2⟩;have:L7 l k=some s:=Wc.2 ⟨by grind,fun j hj=>by grind⟩
     grind
def A2r{l:List κ}{k:κ}:L7 l k=none↔∀ j:Nat,l[j]?≠some k:=by
 constructor
 .intro h j hj
  induction l generalizing j with
  | nil=>grind
  | cons x l ih=>
   rw[L7]at h
   split at h
   .cases h
   .rename_i hx
    cases j with
    | zero=>grind
    | succ j=>simp_all
 .intro h
  cases hs:L7 l k with
  | none=>rfl
  | some s=>grind[Wc]
end
