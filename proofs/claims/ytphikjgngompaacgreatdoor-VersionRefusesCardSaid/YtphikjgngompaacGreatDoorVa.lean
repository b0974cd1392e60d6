/- Walks: the tables of lengths, both sides. -/
import Derived.Test.YtphikjgngompaacGreatDoorUi
set_option linter.all false
namespace Go.Proofs.YtphikjgngompaacGreatDoor.KM
open Go
def AL{p:Prop}(h:p:=by assumption):p:=h
def tk1{l:List V}{i:Nat}{x:V}(h:l[i]?=some x):List.take 1 (List.drop i l)=[x]:=by
 grind[List.drop_eq_getElem_cons]
theorem tds{l:List V}{i:Nat}(h:i<l.length)(x:V):List.take i l++x::List.drop (i+1) l=l.set i x:=by
 simp_all [List.set_eq_take_append_cons_drop]
def V3(n:Nat)(v:V):(List.replicate n [v]).flatten=List.replicate n v:=by
 simp_all
theorem Pf(l:List Int):(Br l).length=l.length:=by grind[Br]
def Ue{l:List Int}{i:Nat}{x:Int}(h:l[i]?=some x):List.take 1 (List.drop i (Br l))=[iV x]:=tk1 (A54 h)
theorem Wa{l:List Int}{i:Nat}(h:i<l.length)(x:Int):List.take i (Br l)++iV x::List.drop (i+1) (Br l)=Br (l.set i x):=by
 grind[tds,Pf,A55]
def A3w{n m i:Nat}(hi:i<n):List.take i (E8 n m (i+1))++V.sl (1+(n - i)) 0 0 (m+1) 1 true::List.drop (i+1) (E8 n m (i+1))=E8 n m i:=by
 rw[tds (by grind[Air])];exact A56 hi
def Auo{n m i k:Nat}(h:i<=k)(hk:k<=n):List.take 1 (List.drop k (E8 n m i))=[.sl (1+(n - k)) 0 0 (m+1) 1 true]:=tk1 (A57 h hk)
def A3x(X Y:List (List UInt8))(OT IT:Nat):([.row (E8 X.length Y.length X.length) OT 0 0,.row (List.replicate (Y.length+1) (iV 0)) IT 0 0]:St)=Gn OT IT X.length Y.length X.length (Fv X Y (X.length - X.length+1)):=by
 rw[Iu];unfold Gn Fv;simp[Arj,Yw]
def A7c(X Y:List (List UInt8))(OT IT i:Nat)(hi:i<X.length):(Gn OT IT X.length Y.length (i+1) (Fv X Y (X.length - i))++[Ob.row (List.replicate (Y.length+1) (iV 0)) IT 0 0]).set 0 (.row (E8 X.length Y.length i) OT 0 0)=Gn OT IT X.length Y.length i (Fv X Y (X.length - i)++[Dj X Y i Y.length]):=by
 rw[Yw,Bao,Ari];rfl
set_option maxHeartbeats 4000000 in
def A1w(z1 z2:Bool)(t1 t2:Nat)(X Y:List (List UInt8))(hX:X.length<=1000000)(hY:Y.length<=1000000):Fn TT PT 77 [SL z1 t1 (X.map fun x=>[V.str x]),SL z2 t2 (Y.map fun x=>[V.str x])] (U5 (K9 X Y)):=by
 refine Awb T77 rfl ?_;have qi:(X.map fun x=>[V.str x]).length=X.length:=Av ..;have qf:(Y.map fun x=>[V.str x]).length=Y.length:=Av ..;obtain⟨N,hN⟩:∃ N,N=X.length+1:=⟨_,rfl⟩;obtain⟨M,hM⟩:∃ M,M=Y.length+1:=⟨_,rfl⟩;have w1:IntKind.i64.wrap ((X.length:Int)+1)=(N:Int):=by rw[hN];exact Aw AA
 have w2:IntKind.i64.wrap ((Y.length:Int)+1)=(M:Int):=by rw[hM];exact Aw AA
 have w3:IntKind.i64.wrap ((X.length:Int) - 1)=(X.length:Int) - 1:=Bo AA;have w4:IntKind.i64.wrap ((Y.length:Int) - 1)=(Y.length:Int) - 1:=Bo AA;have a1:(0<=(N:Int))=True:=eq_true AA;have a2:((N:Int)<=(N:Int))=True:=eq_true (Vr _);have a3:(N*24<=140737488355328)=True:=eq_true AA;have b1:(0<=(M:Int))=True:=eq_true AA;have b2:((M:Int)<=(M:Int))=True:=eq_true (Vr _);have b3:(M*8<=140737488355328)=True:=eq_true AA;have c1:(0<=(X.length:Int))=True:=eq_true AA;have c2:((X.length:Int)<(N:Int))=True:=eq_true AA;have c3:∀ n:Nat,(0<=n)=True:=fun n=>eq_true (As n)
 have c4:(X.length+1<=(List.replicate N V.nils).length)=True:=eq_true (by grind)
 have e1:List.take X.length (List.replicate N V.nils)++V.sl 1 0 0 M 1 true::List.drop (X.length+1) (List.replicate N V.nils)=E8 X.length Y.length X.length:=by
  rw[tds (by grind),hN,hM];exact A26 _ _
 simp only[go_sem,qi,qf,w1,w2,w3,a1,a2,a3,b1,b2,b3,c1,c2,c3,c4,V3,e1];rw[hM,A3x X Y];refine Bb (α:=Nat) (fun i=>i) (fun i=>[(0,SL z1 t1 (X.map fun x=>[V.str x])),(1,SL z2 t2 (Y.map fun x=>[V.str x])),(5,.sl 0 0 0 N 1 true),(6,iV ((i:Int) - 1))]) (fun i=>Gn 50 3 X.length Y.length i (Fv X Y (X.length - i+1))) (fun i=>i<=X.length) ?_ X.length (Am _);intro i hi ih;refine Ay Blp ?_
 cases i with
 | zero=>
  have d0:decide ((0:Int)<=0 - 1)=false:=by decide
  simp only[go_sem,d0];unfold Hd;refine⟨0,50,0,vL X Y,?_,?_,?_,Bfr X Y⟩
  .rw[Bfq,<-hN];rfl
  .rw[Bfs];rfl
  simp_all [Baq]
 | succ i=>
 have qc:i<X.length:=hi;have q1:(((i+1:Nat):Int) - 1)=(i:Int):=by omega
 have q2:X.length - (i+1)+1=X.length - i:=by omega
 have d0:decide ((0:Int)<=(i:Int))=true:=by simp
 simp only[q1,q2];generalize hs:Gn 50 3 X.length Y.length (i+1) (Fv X Y (X.length - i))=s;have qz:s.length=1+(X.length - i):=by rw[<-hs,Ban,Ah4]
 have k0:(s++[Ob.row (List.replicate M (iV 0)) 3 0 0])[0]?=some (.row (E8 X.length Y.length (i+1)) 50 0 0):=by rw[<-hs];rfl
 have g1:(0<=(i:Int))=True:=eq_true AA;have g2:((i:Int)<(N:Int))=True:=eq_true AA;have g3:(i+1<=(E8 X.length Y.length (i+1)).length)=True:=eq_true (by grind[Air]);have e2:List.take i (E8 X.length Y.length (i+1))++V.sl (1+(X.length - i)) 0 0 M 1 true::List.drop (i+1) (E8 X.length Y.length (i+1))=E8 X.length Y.length i:=by rw[hM];exact A3w qc
 have e3:(s++[Ob.row (List.replicate M (iV 0)) 3 0 0]).set 0 (.row (E8 X.length Y.length i) 50 0 0)=Gn 50 3 X.length Y.length i (Fv X Y (X.length - i)++[Dj X Y i Y.length]):=by rw[<-hs,hM];exact A7c X Y _ _ i qc
 simp only[go_sem,d0,qf,w2,w4,b1,b2,b3,c3,qz,k0,g1,g2,g3,V3,e2,e3];refine Bb (α:=Nat) (fun j=>j) (fun j=>[(0,SL z1 t1 (X.map fun x=>[V.str x])),(1,SL z2 t2 (Y.map fun x=>[V.str x])),(5,.sl 0 0 0 N 1 true),(6,iV (i:Int)),(7,iV ((j:Int) - 1))]) (fun j=>Gn 50 3 X.length Y.length i (Fv X Y (X.length - i)++[Dj X Y i j])) (fun j=>j<=Y.length) ?_ Y.length (Am _);intro j hj jh;refine Ay Blo ?_
 cases j with
 | zero=>
  have d0:decide ((0:Int)<=0 - 1)=false:=by decide
  have w5:IntKind.i64.wrap ((i:Int) - 1)=(i:Int) - 1:=Bo AA;simp only[go_sem,d0,w5];rw[Yg,A1k X Y (Rl qc)];exact Ai (ih i AA AA) rfl
 | succ j=>
 have qg:j<Y.length:=hj;have q3:(((j+1:Nat):Int) - 1)=(j:Int):=by omega
 have d1:decide ((0:Int)<=(j:Int))=true:=by simp
 have qm:=jh j (Vm j) AA;simp only[q3];obtain⟨x,hx,-,-⟩:=Bk qc;obtain⟨y,hy,-,-⟩:=Bk qg;have qo:X[i]=x/\Y[j]=y:=⟨(An.1 hx).2,(An.1 hy).2⟩;have qh:=Bam X Y qc qg;rw[qo.1,qo.2]at qh;have l1:=Ads X Y (i+1) (j+1);have r0:(Gn 50 3 X.length Y.length i (Fv X Y (X.length - i)++[Dj X Y i (j+1)]))[1+(X.length - i)]?=some (.row (Br (Dj X Y i (j+1))) 3 0 0):=Ajm _ _ _ _ _ (A27 X Y i _);have r1:(Gn 50 3 X.length Y.length i (Fv X Y (X.length - i)++[Dj X Y i (j+1)]))[1+(X.length - (i+1))]?=some (.row (Br (Gu X Y (i+1))) 3 0 0):=Ajm _ _ _ _ _ (A1j X Y qc _);have r2:(Gn 50 3 X.length Y.length i (Fv X Y (X.length - i)++[Dj X Y i (j+1)]))[0]?=some (.row (E8 X.length Y.length i) 50 0 0):=rfl;have e4:(Gn 50 3 X.length Y.length i (Fv X Y (X.length - i)++[Dj X Y i (j+1)])).set (1+(X.length - i)) (.row (Br (Dj X Y i j)) 3 0 0)=Gn 50 3 X.length Y.length i (Fv X Y (X.length - i)++[Dj X Y i j]):=by rw[Bap,A28]
 rw[<-e4]at qm;generalize Gn 50 3 X.length Y.length i (Fv X Y (X.length - i)++[Dj X Y i (j+1)])=s2 at *;have o1:List.take 1 (List.drop i (E8 X.length Y.length i))=[.sl (1+(X.length - i)) 0 0 M 1 true]:=by rw[hM];exact Auo (Am _) AA
 have o2:List.take 1 (List.drop (i+1) (E8 X.length Y.length i))=[.sl (1+(X.length - (i+1))) 0 0 M 1 true]:=by rw[hM];exact Auo AA AA
 have o3:(i+1<=(E8 X.length Y.length i).length)=True:=eq_true (by grind[Air]);have o4:(i+1+1<=(E8 X.length Y.length i).length)=True:=eq_true (by grind);have i1:IntKind.i64.wrap ((i:Int)+1)=((i+1:Nat):Int):=Aw AA;have i2:(0<=((i+1:Nat):Int))=True:=eq_true AA;have i3:(((i+1:Nat):Int)<(N:Int))=True:=eq_true AA;have j0:(0<=(j:Int))=True:=eq_true AA;have j1:IntKind.i64.wrap ((j:Int)+1)=((j+1:Nat):Int):=Aw AA;have j2:(0<=((j+1:Nat):Int))=True:=eq_true AA;have j3:(((j+1:Nat):Int)<(M:Int))=True:=eq_true AA;have j4:((j:Int)<(M:Int))=True:=eq_true AA;have j5:IntKind.i64.wrap ((j:Int) - 1)=(j:Int) - 1:=Bo AA;have m1:(j+1<=(Br (Dj X Y i (j+1))).length)=True:=eq_true (by grind[Pf,Ada]);have m2:(j+1+1<=(Br (Dj X Y i (j+1))).length)=True:=eq_true (by grind[Pf,Ada]);have m3:(j+1+1<=(Br (Gu X Y (i+1))).length)=True:=eq_true (by grind[Pf,Adb]);have m4:(j+1<=(Br (Gu X Y (i+1))).length)=True:=eq_true (by grind);have n1:=Ue (Rr X Y (i:=i+1) (k:=j+1) qg);have n2:=Ue (Rr X Y (i:=i+1) (k:=j) (Rl qg));have n3:=Ue (Aiq X Y (i:=i) (j:=j+1) (k:=j+1) qg (Am _));have e5:List.take j (Br (Dj X Y i (j+1)))++iV (Ce X Y i j:Int)::List.drop (j+1) (Br (Dj X Y i (j+1)))=Br (Dj X Y i j):=by rw[Wa (by grind[Ada]),V7 X Y qg]
 by_cases e:x=y
 .rw[if_pos e]at qh;have f1:(x==y)=true:=by simp[e]
  have f2:IntKind.i64.wrap (1+((Ce X Y (i+1) (j+1):Nat):Int))=((Ce X Y i j:Nat):Int):=by rw[qh,Bo AA];rfl
  simp only[go_sem,d1];refine Ad AD ?_;simp only[go_sem,Ak,hx,hy];simp only[go_sem,f1];refine Ad AD ?_;simp only[go_sem,r0,r1,r2,o1,o2,o3,o4,g1,g2,i1,i2,i3,j0,j1,j2,j3,j4,m1,m2,m3,m4,n1,n2,n3,c3];simp only[go_sem,f2,r0,m1,e5,c3];refine Id (by repeat (first | exact trivial | refine⟨.inl AH,?_⟩ | refine⟨by rfl,?_⟩ | refine⟨.inr ⟨by rfl,by rfl⟩,?_⟩)) (by repeat (first | exact trivial | refine⟨.inl AH,?_⟩ | refine⟨by rfl,?_⟩ | refine⟨.inr ⟨by rfl,by rfl⟩,?_⟩)) ?_;simp only[go_sem,j5];exact Ai qm rfl
 .rw[if_neg e]at qh;have f1:(x==y)=false:=by simp[e]
  have f2:max ((Ce X Y (i+1) j:Nat):Int) ((Ce X Y i (j+1):Nat):Int)=((Ce X Y i j:Nat):Int):=by rw[qh];omega
  simp only[go_sem,d1];refine Ad AD ?_;simp only[go_sem,Ak,hx,hy];simp only[go_sem,f1];refine Ad AD ?_;simp only[go_sem,r0,r1,r2,o1,o2,o3,o4,g1,g2,i1,i2,i3,j0,j1,j2,j3,j4,m1,m2,m3,m4,n1,n2,n3,c3];simp only[go_sem,f2,r0,m1,e5,c3];refine Id (by repeat (first | exact trivial | refine⟨.inl AH,?_⟩ | refine⟨by rfl,?_⟩ | refine⟨.inr ⟨by rfl,by rfl⟩,?_⟩)) (by repeat (first | exact trivial | refine⟨.inl AH,?_⟩ | refine⟨by rfl,?_⟩ | refine⟨.inr ⟨by rfl,by rfl⟩,?_⟩)) ?_;simp only[go_sem,j5];exact Ai qm rfl
/-! the reference's table -/
def A3y{n m i:Nat}(hi:i<=n):List.take i (E9 n m i)++V.sl (1+i) 0 0 (m+1) 1 true::List.drop (i+1) (E9 n m i)=E9 n m (i+1):=by
 rw[tds (by grind[Ais])];exact A58 hi
def Aup{n m i k:Nat}(h:k<i)(hk:k<=n):List.take 1 (List.drop k (E9 n m i))=[.sl (1+k) 0 0 (m+1) 1 true]:=tk1 (A59 h hk)
def A7d(OT IT n m M k:Nat):(Ei OT IT n m k (List.replicate k (List.replicate M 0))++[Ob.row (List.replicate M (iV 0)) IT 0 0]).set 0 (.row (E9 n m (k+1)) OT 0 0)=Ei OT IT n m (k+1) (List.replicate (k+1) (List.replicate M 0)):=by
 rw[Yw,Bas,<-List.replicate_succ'];rfl
set_option maxHeartbeats 4000000 in
def A1x(z1 z2:Bool)(t1 t2:Nat)(X Y:List (List UInt8))(hX:X.length<=1000000)(hY:Y.length<=1000000):Fn TT PT 94 [SL z1 t1 (X.map fun x=>[V.str x]),SL z2 t2 (Y.map fun x=>[V.str x])] (U5 (K9 X Y)):=by
 refine Awb T94 rfl ?_;have qi:(X.map fun x=>[V.str x]).length=X.length:=Av ..;have qf:(Y.map fun x=>[V.str x]).length=Y.length:=Av ..;obtain⟨N,hN⟩:∃ N,N=X.length+1:=⟨_,rfl⟩;obtain⟨M,hM⟩:∃ M,M=Y.length+1:=⟨_,rfl⟩;have w1:IntKind.i64.wrap ((X.length:Int)+1)=(N:Int):=by rw[hN];exact Aw AA
 have w2:IntKind.i64.wrap ((Y.length:Int)+1)=(M:Int):=by rw[hM];exact Aw AA
 have w3:IntKind.i64.wrap ((X.length:Int) - 1)=(X.length:Int) - 1:=Bo AA;have w4:IntKind.i64.wrap ((Y.length:Int) - 1)=(Y.length:Int) - 1:=Bo AA;have a1:(0<=(N:Int))=True:=eq_true AA;have a2:((N:Int)<=(N:Int))=True:=eq_true (Vr _);have a3:(N*24<=140737488355328)=True:=eq_true AA;have b1:(0<=(M:Int))=True:=eq_true AA;have b2:((M:Int)<=(M:Int))=True:=eq_true (Vr _);have b3:(M*8<=140737488355328)=True:=eq_true AA;have c3:∀ n:Nat,(0<=n)=True:=fun n=>eq_true (As n)
 have qG:([.row (List.replicate N V.nils) 50 0 0]:St)=Ei 50 3 X.length Y.length 0 (List.replicate 0 (List.replicate M 0)):=by
  unfold Ei;rw[A29,hN];rfl
 simp only[go_sem,qi,w1,a1,a2,a3,V3];rw[qG];refine Bb (α:=Nat) (fun k=>N - k) (fun k=>[(0,SL z1 t1 (X.map fun x=>[V.str x])),(1,SL z2 t2 (Y.map fun x=>[V.str x])),(5,.sl 0 0 0 N 1 true),(14,iV (N:Int)),(15,iV (k:Int))]) (fun k=>Ei 50 3 X.length Y.length k (List.replicate k (List.replicate M 0))) (fun k=>k<=N) ?_ 0 (As _);intro k hk kh;refine Ay Bl5 ?_;rcases Az k N with qd | qd
 .generalize hs:Ei 50 3 X.length Y.length k (List.replicate k (List.replicate M 0))=s;have qz:s.length=1+k:=by rw[<-hs,Bar,Abk]
  have k0:(s++[Ob.row (List.replicate M (iV 0)) 3 0 0])[0]?=some (.row (E9 X.length Y.length k) 50 0 0):=by rw[<-hs];rfl
  have g1:(0<=(k:Int))=True:=eq_true AA;have g2:((k:Int)<(N:Int))=True:=eq_true AA;have g3:(k+1<=(E9 X.length Y.length k).length)=True:=eq_true (by grind[Ais]);have e2:List.take k (E9 X.length Y.length k)++V.sl (1+k) 0 0 M 1 true::List.drop (k+1) (E9 X.length Y.length k)=E9 X.length Y.length (k+1):=by rw[hM];exact A3y AA
  have e3:(s++[Ob.row (List.replicate M (iV 0)) 3 0 0]).set 0 (.row (E9 X.length Y.length (k+1)) 50 0 0)=Ei 50 3 X.length Y.length (k+1) (List.replicate (k+1) (List.replicate M 0)):=by rw[<-hs];exact A7d _ _ _ _ _ k
  simp only[go_sem,Aq qd,qf,w2,b1,b2,b3,c3,qz,k0,g1,g2,g3,V3,e2,e3,Aw (show k<9223372036854775807 by omega)];exact Ai (kh (k+1) AA qd) rfl
 obtain rfl:k=N:=by omega
 clear kh;simp only[go_sem,Bj qd,qi,w3];rw[show List.replicate k (List.replicate M (0:Int))=El X Y X.length 0 by grind[A0r],hN];refine Bb (α:=Nat) (fun i=>i) (fun i=>[(0,SL z1 t1 (X.map fun x=>[V.str x])),(1,SL z2 t2 (Y.map fun x=>[V.str x])),(5,.sl 0 0 0 (X.length+1) 1 true),(7,iV ((i:Int) - 1))]) (fun i=>Ei 50 3 X.length Y.length (X.length+1) (El X Y i 0)) (fun i=>i<=X.length) ?_ X.length (Am _);intro i hi ih;refine Ay Bl7 ?_
 cases i with
 | zero=>
  have d0:decide ((0:Int)<=0 - 1)=false:=by decide
  rw[A1n];simp only[go_sem,d0];unfold Hd;refine⟨0,50,0,rL X Y,?_,?_,Bat _ _ _ X Y,Bfu X Y⟩
  .rw[Bft];rfl
  .rw[Bfv];rfl
 | succ i=>
 have qc:i<X.length:=hi;have q1:(((i+1:Nat):Int) - 1)=(i:Int):=by omega
 have d0:decide ((0:Int)<=(i:Int))=true:=by simp
 have g1:(0<=(i:Int))=True:=eq_true AA;have g2:((i:Int)<((X.length+1:Nat):Int))=True:=eq_true AA;simp only[q1];rw[A1l X Y qc];simp only[go_sem,d0,qf,w4];refine Bb (α:=Nat) (fun j=>j) (fun j=>[(0,SL z1 t1 (X.map fun x=>[V.str x])),(1,SL z2 t2 (Y.map fun x=>[V.str x])),(5,.sl 0 0 0 (X.length+1) 1 true),(7,iV (i:Int)),(8,iV ((j:Int) - 1))]) (fun j=>Ei 50 3 X.length Y.length (X.length+1) (El X Y i j)) (fun j=>j<=Y.length) ?_ Y.length (Am _);intro j hj jh;refine Ay Bl6 ?_
 cases j with
 | zero=>
  have d0:decide ((0:Int)<=0 - 1)=false:=by decide
  have w5:IntKind.i64.wrap ((i:Int) - 1)=(i:Int) - 1:=Bo AA;simp only[go_sem,d0,w5];exact Ai (ih i AA AA) rfl
 | succ j=>
 have qg:j<Y.length:=hj;have q3:(((j+1:Nat):Int) - 1)=(j:Int):=by omega
 have d1:decide ((0:Int)<=(j:Int))=true:=by simp
 have qm:=jh j (Vm j) AA;simp only[q3];obtain⟨x,hx,-,-⟩:=Bk qc;obtain⟨y,hy,-,-⟩:=Bk qg;have qo:X[i]=x/\Y[j]=y:=⟨(An.1 hx).2,(An.1 hy).2⟩;have qh:=A52 X Y qc qg;rw[qo.1,qo.2]at qh;have l1:=Ads X Y (i+1) (j+1);obtain⟨v1,qA⟩:∃ v1:Int,max ((Ce X Y (i+1) j:Nat):Int) ((Ce X Y i (j+1):Nat):Int)=v1:=⟨_,rfl⟩;obtain⟨R1,qr⟩:∃ R1:List Int,R1=(Dj X Y i (j+1)).set j v1:=⟨_,rfl⟩;have qF:R1.length=Y.length+1:=by rw[qr,Ny,Ada]
 have qu:R1[j]?=some v1:=by rw[qr,Cf (by grind)]
 have qv:=A3b X Y (i:=i) (j:=j+1) (Rl qc);have qq:=A1m X Y (j:=j+1) qc;have qI:=A3a X Y i (j+1);have r0:(Ei 50 3 X.length Y.length (X.length+1) (El X Y i (j+1)))[1+i]?=some (.row (Br (Dj X Y i (j+1))) 3 0 0):=Zh _ _ _ _ _ qv;have r1:(Ei 50 3 X.length Y.length (X.length+1) (El X Y i (j+1)))[1+(i+1)]?=some (.row (Br (Gu X Y (i+1))) 3 0 0):=Zh _ _ _ _ _ qq;have r2:(Ei 50 3 X.length Y.length (X.length+1) (El X Y i (j+1)))[0]?=some (.row (E9 X.length Y.length (X.length+1)) 50 0 0):=rfl;have e4:(Ei 50 3 X.length Y.length (X.length+1) (El X Y i (j+1))).set (1+i) (.row (Br R1) 3 0 0)=Ei 50 3 X.length Y.length (X.length+1) ((El X Y i (j+1)).set i R1):=by rw[At7]
 have s0:(Ei 50 3 X.length Y.length (X.length+1) ((El X Y i (j+1)).set i R1))[1+i]?=some (.row (Br R1) 3 0 0):=Zh _ _ _ _ _ (by grind);have s1:(Ei 50 3 X.length Y.length (X.length+1) ((El X Y i (j+1)).set i R1))[1+(i+1)]?=some (.row (Br (Gu X Y (i+1))) 3 0 0):=Zh _ _ _ _ _ (by grind);have s2:(Ei 50 3 X.length Y.length (X.length+1) ((El X Y i (j+1)).set i R1))[0]?=some (.row (E9 X.length Y.length (X.length+1)) 50 0 0):=rfl
 have e6:(Ei 50 3 X.length Y.length (X.length+1) ((El X Y i (j+1)).set i R1)).set (1+i) (.row (Br (Dj X Y i j)) 3 0 0)=Ei 50 3 X.length Y.length (X.length+1) (El X Y i j):=by
  rw[At7,Vp,<-Apv X Y (Rl qc) qg,V7 X Y qg]
 have e7:R1=Dj X Y i j->Ei 50 3 X.length Y.length (X.length+1) ((El X Y i (j+1)).set i R1)=Ei 50 3 X.length Y.length (X.length+1) (El X Y i j):=fun h=>by
  grind[V7,Apv]
 generalize Ei 50 3 X.length Y.length (X.length+1) ((El X Y i (j+1)).set i R1)=s3 at *;generalize Ei 50 3 X.length Y.length (X.length+1) (El X Y i (j+1))=s4 at *;have o1:List.take 1 (List.drop i (E9 X.length Y.length (X.length+1)))=[.sl (1+i) 0 0 M 1 true]:=by rw[hM];exact Aup AA AA
 have o2:List.take 1 (List.drop (i+1) (E9 X.length Y.length (X.length+1)))=[.sl (1+(i+1)) 0 0 M 1 true]:=by rw[hM];exact Aup AA AA
 have o3:(i+1<=(E9 X.length Y.length (X.length+1)).length)=True:=eq_true (by grind[Ais]);have o4:(i+1+1<=(E9 X.length Y.length (X.length+1)).length)=True:=eq_true (by grind);generalize E9 X.length Y.length (X.length+1)=O at *;have i1:IntKind.i64.wrap ((i:Int)+1)=((i+1:Nat):Int):=Aw AA;have i2:(0<=((i+1:Nat):Int))=True:=eq_true AA;have i3:(((i+1:Nat):Int)<((X.length+1:Nat):Int))=True:=eq_true AA;have j0:(0<=(j:Int))=True:=eq_true AA;have j1:IntKind.i64.wrap ((j:Int)+1)=((j+1:Nat):Int):=Aw AA;have j2:(0<=((j+1:Nat):Int))=True:=eq_true AA;have j3:(((j+1:Nat):Int)<(M:Int))=True:=eq_true AA;have j4:((j:Int)<(M:Int))=True:=eq_true AA;have j5:IntKind.i64.wrap ((j:Int) - 1)=(j:Int) - 1:=Bo AA;have m1:(j+1<=(Br (Dj X Y i (j+1))).length)=True:=eq_true (by grind[Pf]);have m2:(j+1+1<=(Br (Dj X Y i (j+1))).length)=True:=eq_true (by grind[Pf]);have m3:(j+1+1<=(Br (Gu X Y (i+1))).length)=True:=eq_true (by grind[Pf,Adb]);have m4:(j+1<=(Br (Gu X Y (i+1))).length)=True:=eq_true (by grind);have m5:(j+1<=(Br R1).length)=True:=eq_true (by grind[Pf]);have n1:=Ue (Rr X Y (i:=i+1) (k:=j+1) qg);have n2:=Ue (Rr X Y (i:=i+1) (k:=j) (Rl qg));have n3:=Ue (Aiq X Y (i:=i) (j:=j+1) (k:=j+1) qg (Am _));have n4:=Ue qu;have e5:List.take j (Br (Dj X Y i (j+1)))++iV v1::List.drop (j+1) (Br (Dj X Y i (j+1)))=Br R1:=by rw[Wa (by grind),qr]
 have e8:List.take j (Br R1)++iV (Ce X Y i j:Int)::List.drop (j+1) (Br R1)=Br (Dj X Y i j):=by rw[Wa AA,qr,Vp,V7 X Y qg]
 simp only[go_sem,d1];refine Ad AD ?_;simp only[go_sem,r0,r1,r2,o1,o2,o3,o4,g1,g2,i1,i2,i3,j0,j1,j2,j3,j4,m1,m2,m3,m4,n1,n2,n3,c3];simp only[go_sem,qA,r0,m1,e5,e4,c3];refine Id (by repeat (first | exact trivial | refine⟨.inl AH,?_⟩ | refine⟨by rfl,?_⟩ | refine⟨.inr ⟨by rfl,by rfl⟩,?_⟩)) (by repeat (first | exact trivial | refine⟨.inl AH,?_⟩ | refine⟨by rfl,?_⟩ | refine⟨.inr ⟨by rfl,by rfl⟩,?_⟩)) ?_;simp only[go_sem];by_cases e:x=y
 .rw[if_pos e]at qh;have f1:(x==y)=true:=by simp[e]
  have f2:IntKind.i64.wrap (1+((Ce X Y (i+1) (j+1):Nat):Int))=((1+Ce X Y (i+1) (j+1):Nat):Int):=by rw[Bo AA];rfl
  have f3:max v1 ((1+Ce X Y (i+1) (j+1):Nat):Int)=((Ce X Y i j:Nat):Int):=by rw[<-qA,qh];omega
  refine Ad AD ?_;simp only[go_sem,Ak,hx,hy];simp only[go_sem,f1];refine Ad AD ?_;simp only[go_sem,s0,s1,s2,o1,o2,o3,o4,g1,g2,i1,i2,i3,j0,j1,j2,j3,j4,m3,m5,n1,n4,c3];simp only[go_sem,f2,f3,s0,m5,e8,e6,c3];refine Id (by repeat (first | exact trivial | refine⟨.inl AH,?_⟩ | refine⟨by rfl,?_⟩ | refine⟨.inr ⟨by rfl,by rfl⟩,?_⟩)) (by repeat (first | exact trivial | refine⟨.inl AH,?_⟩ | refine⟨by rfl,?_⟩ | refine⟨.inr ⟨by rfl,by rfl⟩,?_⟩)) ?_;simp only[go_sem,j5];exact Ai qm rfl
 .rw[if_neg e]at qh;have f1:(x==y)=false:=by simp[e]
  have qJ:v1=((Ce X Y i j:Nat):Int):=by rw[<-qA,qh];omega
  rw[<-e7 (by grind[V7])]at qm;refine Ad AD ?_;simp only[go_sem,Ak,hx,hy];simp only[go_sem,f1,j5];exact Ai qm rfl
def Ao(l:List Int):List (List V):=l.map fun k=>[iV k]
theorem F8(l:List Int):(Ao l).length=l.length:=by grind[Ao]
def Ie(l:List Int):∀ r∈Ao l,r.length=1:=fun r hr=>by obtain⟨x,-,rfl⟩:=Di.1 hr;rfl
def Ph(l:List Int):∀ r∈Ao l,r.all V.rowB=true:=fun r hr=>by obtain⟨x,-,rfl⟩:=Di.1 hr;rfl
theorem Ar9{D:List Int}{n i:Nat}(h:D.length=i)(hi:i<n)(v:Int):(D++List.replicate (n - i) 0).set i v=(D++[v])++List.replicate (n - (i+1)) 0:=by
 rw[List.set_append_right _ _ AA,h,Iu,show n - i=(n - (i+1))+1 by omega,Agw,Agy,Dm];rfl
theorem A3z{D R:List Int}{i:Nat}(h:D.length=i)(u v:Int):((D++[u])++R).set i v=(D++[v])++R:=by
 simp_all
def Awt{D:List Int}{n:Nat}{e:Nat}(h:D.length=n):FR (.sl 0 0 0 n 1 true) [.row (Br D) e 0 0] (.lst 0 (Ao D)):=by
 have:=Afj (σ:=[.row (Br D) e 0 0]) (i:=0) (g:=0) (m:=1) (e:=e) (xs:=Ao D) (by rw[Apu];rfl) AA (Ie D) (Ph D);rw[F8,h]at this;exact this
set_option maxHeartbeats 4000000 in
def A7e(z1 z2:Bool)(t1 t2:Nat)(X Y:List (List UInt8))(hX:X.length<=4096)(hY:Y.length<=4096):Fn TT PT 44 [SL z1 t1 (X.map fun x=>[V.str x]),SL z2 t2 (Y.map fun x=>[V.str x])] (.lst 0 (Ao (Du 0 X Y))):=by
 refine Bg T44 rfl ?_;have qi:(X.map fun x=>[V.str x]).length=X.length:=Av ..;have qf:(Y.map fun x=>[V.str x]).length=Y.length:=Av ..;have q:=A1w z1 z2 t1 t2 X Y AA AA;unfold U5 at q;have a1:(4096<(X.length:Int))=False:=eq_false AA;have a2:(4096<(Y.length:Int))=False:=eq_false AA;have b1:(0<=(X.length:Int))=True:=eq_true AA;have b2:((X.length:Int)<=(X.length:Int))=True:=eq_true (Vr _);have b3:(X.length*8<=140737488355328)=True:=eq_true AA;have c3:∀ n:Nat,(0<=n)=True:=fun n=>eq_true (As n)
 simp only[go_sem,qi,qf,a1,a2];refine Ab q AB ?_;simp only[go_sem,qi,b1,b2,b3,V3,Yw];refine Bb (α:=Nat × Nat × List Int) (fun a=>X.length - a.1) (fun a=>[(0,SL z1 t1 (X.map fun x=>[V.str x])),(1,SL z2 t2 (Y.map fun x=>[V.str x])),(5,.lst 0 ((K9 X Y).map fun r=>[V.lst 0 (r.map fun x=>[iV x])])),(6,.sl 0 0 0 X.length 1 true),(7,iV (a.2.1:Int)),(25,iV (X.length:Int)),(26,iV (a.1:Int))]) (fun a=>[.row (Br (a.2.2++List.replicate (X.length - a.1) 0)) 3 0 0]) (fun a=>a.1<=X.length/\a.2.1<=Y.length/\a.2.2.length=a.1/\a.2.2++Du a.2.1 (X.drop a.1) (Y.drop a.2.1)=Du 0 X Y) ?_ (0,0,[]) ⟨As _,As _,rfl,by simp⟩;rintro⟨i,j,D⟩ ⟨hi,hj,hD,hA⟩ ih;simp only at hi hj hD hA ih;refine Ay Bk2 ?_;rcases Az i X.length with qc | qc;rotate_left
 .obtain rfl:i=X.length:=by omega
  rw[List.drop_length,Du,Bz]at hA;subst hA;rw[Iu,Agx,Bz];simp only[go_sem,Bj qc];exact Awt hD
 obtain⟨x,hx,-,-⟩:=Bk qc;have g1:(0<=(i:Int))=True:=eq_true AA;have g2:((i:Int)<(X.length:Int))=True:=eq_true AA;have qD:(D++List.replicate (X.length - i) (0:Int)).length=X.length:=by rw[Aj,Abk];omega
 have m1:(i+1<=(Br (D++List.replicate (X.length - i) 0)).length)=True:=eq_true (by grind[Pf]);obtain⟨nx,qs⟩:∃ nx:Int->List Int,∀ v,nx v=(D++[v])++List.replicate (X.length - (i+1)) 0:=⟨_,fun _=>rfl⟩;have e1:∀ v:Int,List.take i (Br (D++List.replicate (X.length - i) 0))++iV v::List.drop (i+1) (Br (D++List.replicate (X.length - i) 0))=Br (nx v):=fun v=>by grind[Wa,Ar9]
 have i1:IntKind.i64.wrap ((i:Int)+1)=((i+1:Nat):Int):=Aw AA;simp only[go_sem,Aq qc];refine Bb (α:=Nat) (fun k=>Y.length - k) (fun k=>[(0,SL z1 t1 (X.map fun x=>[V.str x])),(1,SL z2 t2 (Y.map fun x=>[V.str x])),(5,.lst 0 ((K9 X Y).map fun r=>[V.lst 0 (r.map fun x=>[iV x])])),(6,.sl 0 0 0 X.length 1 true),(7,iV (j:Int)),(8,iV (i:Int)),(9,iV (k:Int)),(25,iV (X.length:Int)),(26,iV (i:Int))]) (fun _=>[.row (Br (D++List.replicate (X.length - i) 0)) 3 0 0]) (fun k=>j<=k/\k<=Y.length/\∀ k',j<=k'->k'<k->¬ O0 X Y i j k') ?_ j ⟨Am _,hj,fun k' h1 h2=>by omega⟩;rintro k ⟨qw,hk,qp⟩ kh;refine Ay Bk1 ?_;rcases Az k Y.length with qd | qd;rotate_left
 .obtain rfl:k=Y.length:=by omega
  rw[Ark qc qp]at hA;simp only[go_sem,Bj qd,qf,g1,g2,m1,c3,e1,i1];rw[qs];refine Ai (ih (i+1,j,D++[-1]) AA ⟨qc,hj,by simp[hD],?_⟩) rfl
  grind
 obtain⟨y,hy,-,-⟩:=Bk qd;have k1:IntKind.i64.wrap ((k:Int)+1)=((k+1:Nat):Int):=Aw AA;by_cases e:x=y;rotate_left
 .have f1:(x==y)=false:=by simp[e]
  simp only[go_sem,Aq qd,qf];refine Ad AD ?_;simp only[go_sem,Ak,hx,hy,f1];simp only[go_sem,k1];refine Ai (kh (k+1) AA ⟨by omega,qd,fun k' h1 h2=>?_⟩) rfl;rcases Az k' k with h | h
  .grind
  .obtain rfl:k'=k:=by omega
   intro hh;have:=hh.1
   grind
 have f1:(x==y)=true:=by simp[e]
 have T1:=Adc (Yu X Y (i:=i+1) qc);have T0:=Adc (Yu X Y (i:=i) (Rl qc));have n1:=Afn (Rr X Y (i:=i+1) (k:=k+1) qd);have n0:=Afn (Rr X Y (i:=i) (k:=j) hj);have l1:=Ads X Y (i+1) (k+1);have f2:IntKind.i64.wrap (1+((Ce X Y (i+1) (k+1):Nat):Int))=((1+Ce X Y (i+1) (k+1):Nat):Int):=by rw[Bo AA];rfl
 by_cases hh:1+Ce X Y (i+1) (k+1)=Ce X Y i j
 .have f3:(((1+Ce X Y (i+1) (k+1):Nat):Int)==((Ce X Y i j:Nat):Int))=true:=by rw[hh];simp
  have qk:O0 X Y i j k:=⟨by grind,hh⟩;rw[At5 qc qw qd qk qp]at hA;simp only[go_sem,Aq qd,qf];refine Ad AD ?_;simp only[go_sem,Ak,hx,hy,f1,i1,k1,T1,T0,n1,n0,f2,f3];simp only[go_sem,g1,g2,m1,c3,e1,k1,i1];rw[qs];refine Ai (ih (i+1,k+1,D++[(k:Int)]) AA ⟨qc,qd,by simp[hD],?_⟩) rfl;rw[Dm];exact hA
 .have f3:(((1+Ce X Y (i+1) (k+1):Nat):Int)==((Ce X Y i j:Nat):Int))=false:=by
   rw[beq_eq_false_iff_ne];omega
  simp only[go_sem,Aq qd,qf];refine Ad AD ?_;simp only[go_sem,Ak,hx,hy,f1,i1,k1,T1,T0,n1,n0,f2,f3];refine Ai (kh (k+1) AA ⟨by omega,qd,fun k' h1 h2=>?_⟩) rfl;rcases Az k' k with h | h
  .grind
  .obtain rfl:k'=k:=by omega
   exact fun h=>hh h.2
set_option maxHeartbeats 4000000 in
def Bby(z1 z2:Bool)(t1 t2:Nat)(X Y:List (List UInt8))(hX:X.length<=4096)(hY:Y.length<=4096):Fn TT PT 54 [SL z1 t1 (X.map fun x=>[V.str x]),SL z2 t2 (Y.map fun x=>[V.str x])] (.lst 0 (Ao (Du 0 X Y))):=by
 refine Bg T54 rfl ?_;have qi:(X.map fun x=>[V.str x]).length=X.length:=Av ..;have qf:(Y.map fun x=>[V.str x]).length=Y.length:=Av ..;have q:=A1x z1 z2 t1 t2 X Y AA AA;unfold U5 at q;have b1:(0<=(X.length:Int))=True:=eq_true AA;have b2:((X.length:Int)<=(X.length:Int))=True:=eq_true (Vr _);have b3:(X.length*8<=140737488355328)=True:=eq_true AA;have c3:∀ n:Nat,(0<=n)=True:=fun n=>eq_true (As n)
 simp only[go_sem];refine Ab q AB ?_;simp only[go_sem,qi,b1,b2,b3,V3,Yw];refine Bb (α:=Nat × Nat × List Int) (fun a=>X.length - a.1) (fun a=>[(0,SL z1 t1 (X.map fun x=>[V.str x])),(1,SL z2 t2 (Y.map fun x=>[V.str x])),(5,.lst 0 ((K9 X Y).map fun r=>[V.lst 0 (r.map fun x=>[iV x])])),(6,.sl 0 0 0 X.length 1 true),(7,iV (a.2.1:Int)),(17,iV (X.length:Int)),(18,iV (a.1:Int))]) (fun a=>[.row (Br (a.2.2++List.replicate (X.length - a.1) 0)) 3 0 0]) (fun a=>a.1<=X.length/\a.2.1<=Y.length/\a.2.2.length=a.1/\a.2.2++Du a.2.1 (X.drop a.1) (Y.drop a.2.1)=Du 0 X Y) ?_ (0,0,[]) ⟨As _,As _,rfl,by simp⟩;rintro⟨i,j,D⟩ ⟨hi,hj,hD,hA⟩ ih;simp only at hi hj hD hA ih;refine Ay Bk9 ?_;rcases Az i X.length with qc | qc;rotate_left
 .obtain rfl:i=X.length:=by omega
  rw[List.drop_length,Du,Bz]at hA;subst hA;rw[Iu,Agx,Bz];simp only[go_sem,Bj qc];exact Awt hD
 obtain⟨x,hx,-,-⟩:=Bk qc;have g1:(0<=(i:Int))=True:=eq_true AA;have g2:((i:Int)<(X.length:Int))=True:=eq_true AA;have qD:(D++List.replicate (X.length - i) (0:Int)).length=X.length:=by rw[Aj,Abk];omega
 have qE:∀ u:Int,((D++[u])++List.replicate (X.length - (i+1)) (0:Int)).length=X.length:=fun u=>by grind
 have m1:(i+1<=(Br (D++List.replicate (X.length - i) 0)).length)=True:=eq_true (by grind[Pf]);have e1:List.take i (Br (D++List.replicate (X.length - i) 0))++iV (-1)::List.drop (i+1) (Br (D++List.replicate (X.length - i) 0))=Br ((D++[-1])++List.replicate (X.length - (i+1)) 0):=by rw[Wa AA,Ar9 hD qc]
 obtain⟨L1,qt⟩:∃ L1,L1=(D++[-1])++List.replicate (X.length - (i+1)) (0:Int):=⟨_,rfl⟩;have qC:L1.length=X.length:=by rw[qt];exact qE _
 have m2:(i+1<=(Br L1).length)=True:=eq_true (by grind);obtain⟨nx,qs⟩:∃ nx:Int->List Int,∀ v,nx v=(D++[v])++List.replicate (X.length - (i+1)) 0:=⟨_,fun _=>rfl⟩;have e2:∀ v:Int,List.take i (Br L1)++iV v::List.drop (i+1) (Br L1)=Br (nx v):=fun v=>by grind[Wa,A3z]
 rw[<-qt]at e1;have i1:IntKind.i64.wrap ((i:Int)+1)=((i+1:Nat):Int):=Aw AA;simp only[go_sem,Aq qc,g1,g2,m1,c3,e1];refine Bb (α:=Nat) (fun k=>Y.length - k) (fun k=>[(0,SL z1 t1 (X.map fun x=>[V.str x])),(1,SL z2 t2 (Y.map fun x=>[V.str x])),(5,.lst 0 ((K9 X Y).map fun r=>[V.lst 0 (r.map fun x=>[iV x])])),(6,.sl 0 0 0 X.length 1 true),(7,iV (j:Int)),(8,iV (i:Int)),(9,iV (k:Int)),(17,iV (X.length:Int)),(18,iV (i:Int))]) (fun _=>[.row (Br L1) 3 0 0]) (fun k=>j<=k/\k<=Y.length/\∀ k',j<=k'->k'<k->¬ O0 X Y i j k') ?_ j ⟨Am _,hj,fun k' h1 h2=>by omega⟩;rintro k ⟨qw,hk,qp⟩ kh;refine Ay Bk8 ?_;rcases Az k Y.length with qd | qd;rotate_left
 .obtain rfl:k=Y.length:=by omega
  rw[Ark qc qp]at hA;simp only[go_sem,Bj qd,qf,i1];rw[qt];refine Ai (ih (i+1,j,D++[-1]) AA ⟨qc,hj,by simp[hD],?_⟩) rfl
  grind
 obtain⟨y,hy,-,-⟩:=Bk qd;have k1:IntKind.i64.wrap ((k:Int)+1)=((k+1:Nat):Int):=Aw AA;by_cases e:x=y;rotate_left
 .have f1:(x==y)=false:=by simp[e]
  simp only[go_sem,Aq qd,qf];refine Ad AD ?_;simp only[go_sem,Ak,hx,hy,f1];simp only[go_sem,k1];refine Ai (kh (k+1) AA ⟨by omega,qd,fun k' h1 h2=>?_⟩) rfl;rcases Az k' k with h | h
  .grind
  .obtain rfl:k'=k:=by omega
   intro hh;have:=hh.1
   grind
 have f1:(x==y)=true:=by simp[e]
 have T1:=Adc (Yu X Y (i:=i+1) qc);have T0:=Adc (Yu X Y (i:=i) (Rl qc));have n1:=Afn (Rr X Y (i:=i+1) (k:=k+1) qd);have n0:=Afn (Rr X Y (i:=i) (k:=j) hj);have l1:=Ads X Y (i+1) (k+1);have f2:IntKind.i64.wrap (1+((Ce X Y (i+1) (k+1):Nat):Int))=((1+Ce X Y (i+1) (k+1):Nat):Int):=by rw[Bo AA];rfl
 by_cases hh:1+Ce X Y (i+1) (k+1)=Ce X Y i j
 .have f3:(((1+Ce X Y (i+1) (k+1):Nat):Int)==((Ce X Y i j:Nat):Int))=true:=by rw[hh];simp
  have qk:O0 X Y i j k:=⟨by grind,hh⟩;rw[At5 qc qw qd qk qp]at hA;simp only[go_sem,Aq qd,qf];refine Ad AD ?_;simp only[go_sem,Ak,hx,hy,f1,i1,k1,T1,T0,n1,n0,f2,f3];simp only[go_sem,g1,g2,m2,c3,e2,k1,i1];rw[qs];refine Ai (ih (i+1,k+1,D++[(k:Int)]) AA ⟨qc,qd,by simp[hD],?_⟩) rfl;rw[Dm];exact hA
 .have f3:(((1+Ce X Y (i+1) (k+1):Nat):Int)==((Ce X Y i j:Nat):Int))=false:=by
   rw[beq_eq_false_iff_ne];omega
  simp only[go_sem,Aq qd,qf];refine Ad AD ?_;simp only[go_sem,Ak,hx,hy,f1,i1,k1,T1,T0,n1,n0,f2,f3];refine Ai (kh (k+1) AA ⟨by omega,qd,fun k' h1 h2=>?_⟩) rfl;rcases Az k' k with h | h
  .grind
  .obtain rfl:k'=k:=by omega
   exact fun h=>hh h.2
theorem rd1{s:St}{ob k off x:Nat}{cs:List V}{v:V}{e:Env}(q:s[ob]?=some (.row cs k 0 0))(he:e.get x=.ptr ob 0 off)(hc:cs[off]?=some v):Af (.load 1 true (.t x)) e s=some (v,s):=by
 simp only[Af,Ac,he,H3,q];have hl:=(An.1 hc).1
 rw[if_pos ⟨trivial,by omega⟩,show(cs.drop off).take 1=[v] by
  grind[List.drop_eq_getElem_cons]]
 rfl
def Eu{s:St}{ob off x:Nat}{v:V}{e:Env}(he:e.get x=.ptr ob 0 off)(h:∃ cs k,s[ob]?=some (.row cs k 0 0)/\cs[off]?=some v):Af (.load 1 true (.t x)) e s=some (v,s):=by
 grind[rd1]
def J9{s:St}{off x:Nat}{cs:List V}{v:V}{e:Env}(he:e.get x=.imm cs off)(hc:cs[off]?=some v):Af (.load 1 true (.t x)) e s=some (v,s):=by
 simp only[Af,Ac,he,H3]
 grind[List.drop_eq_getElem_cons,Ht]
def Ew{s:St}{ob k x n:Nat}{cs:List V}{e:Env}(q:s[ob]?=some (.row cs k 0 0))(he:e.get x=.ptr ob 0 0)(hn:cs.length=n):Af (.load n false (.t x)) e s=some (.agg cs,s):=by
 subst hn
 simp_all [Af,Ac,H3,Ht]
def P3{s:St}{x n:Nat}{cs:List V}{e:Env}(he:e.get x=.imm cs 0)(hn:cs.length=n):Af (.load n false (.t x)) e s=some (.agg cs,s):=by
 subst hn
 simp_all [Af,Ac,H3,Ht]
section
variable {T:Nat->Option AF} {pr:Nat->Option (List V->Option V)} {qe:List (List Nat)} {n m:Nat} {e:Env} {σ:St} {fs:Fs} {ls:Ls} {K:Env->St->Fs->Ls->Prop} {i:AI}
def Bd{v:V}{σ1:St}(h:K (e.putO i.dst v) σ1 ((m,σ,σ1)::fs) ls)(h1:P6 qe n m fs:=by repeat (first | exact trivial | refine⟨.inl AH,?_⟩ | refine⟨by rfl,?_⟩ | refine⟨.inr ⟨by rfl,by rfl⟩,?_⟩ | refine⟨.inr ⟨by(first | exact J9 rfl rfl | exact P3 rfl AH | exact Eu rfl ⟨_,_,by assumption,by rfl⟩ | exact Eu rfl ⟨_,_,Bt AL,by rfl⟩ | exact Ew AL rfl AH | exact Ew (Bt AL) rfl AH),by(first | exact J9 rfl rfl | exact P3 rfl AH | exact Eu rfl ⟨_,_,by assumption,by rfl⟩ | exact Eu rfl ⟨_,_,Bt AL,by rfl⟩ | exact Ew AL rfl AH | exact Ew (Bt AL) rfl AH)⟩,?_⟩))(h2:P7 qe n m σ σ1 ls:=by repeat (first | exact trivial | refine⟨.inl AH,?_⟩ | refine⟨by rfl,?_⟩ | refine⟨.inr ⟨by rfl,by rfl⟩,?_⟩ | refine⟨.inr ⟨by(first | exact J9 rfl rfl | exact P3 rfl AH | exact Eu rfl ⟨_,_,by assumption,by rfl⟩ | exact Eu rfl ⟨_,_,Bt AL,by rfl⟩ | exact Ew AL rfl AH | exact Ew (Bt AL) rfl AH),by(first | exact J9 rfl rfl | exact P3 rfl AH | exact Eu rfl ⟨_,_,by assumption,by rfl⟩ | exact Eu rfl ⟨_,_,Bt AL,by rfl⟩ | exact Ew AL rfl AH | exact Ew (Bt AL) rfl AH)⟩,?_⟩)):L5 qe n m i .ef v σ1 e σ fs ls K:=⟨h1,h2,h⟩
def wgR{v:V}{σ1:St}(h:K (e.putO i.dst v) σ fs ((m,fun s=>Af i.op e s=some (v,s))::ls))(h1:Xn qe n m (fun s=>Af i.op e s=some (v,s)) fs:=by repeat (first | exact trivial | refine⟨.inl AH,?_⟩ | refine⟨by rfl,?_⟩ | refine⟨.inr ⟨by rfl,by rfl⟩,?_⟩ | refine⟨.inr ⟨by(first | exact J9 rfl rfl | exact P3 rfl AH | exact Eu rfl ⟨_,_,by assumption,by rfl⟩ | exact Eu rfl ⟨_,_,Bt AL,by rfl⟩ | exact Ew AL rfl AH | exact Ew (Bt AL) rfl AH),by(first | exact J9 rfl rfl | exact P3 rfl AH | exact Eu rfl ⟨_,_,by assumption,by rfl⟩ | exact Eu rfl ⟨_,_,Bt AL,by rfl⟩ | exact Ew AL rfl AH | exact Ew (Bt AL) rfl AH)⟩,?_⟩)):L5 qe n m i .rd v σ1 e σ fs ls K:=⟨h1,h⟩
def Ia{f:Nat}{vs:List V}{v:V}{σ1:St}(hf:Bw T pr f vs σ v σ1)(h:K (e.putO i.dst v) σ1 ((m,σ,σ1)::fs) ls)(h1:P6 qe n m fs:=by repeat (first | exact trivial | refine⟨.inl AH,?_⟩ | refine⟨by rfl,?_⟩ | refine⟨.inr ⟨by rfl,by rfl⟩,?_⟩ | refine⟨.inr ⟨by(first | exact J9 rfl rfl | exact P3 rfl AH | exact Eu rfl ⟨_,_,by assumption,by rfl⟩ | exact Eu rfl ⟨_,_,Bt AL,by rfl⟩ | exact Ew AL rfl AH | exact Ew (Bt AL) rfl AH),by(first | exact J9 rfl rfl | exact P3 rfl AH | exact Eu rfl ⟨_,_,by assumption,by rfl⟩ | exact Eu rfl ⟨_,_,Bt AL,by rfl⟩ | exact Ew AL rfl AH | exact Ew (Bt AL) rfl AH)⟩,?_⟩))(h2:P7 qe n m σ σ1 ls:=by repeat (first | exact trivial | refine⟨.inl AH,?_⟩ | refine⟨by rfl,?_⟩ | refine⟨.inr ⟨by rfl,by rfl⟩,?_⟩ | refine⟨.inr ⟨by(first | exact J9 rfl rfl | exact P3 rfl AH | exact Eu rfl ⟨_,_,by assumption,by rfl⟩ | exact Eu rfl ⟨_,_,Bt AL,by rfl⟩ | exact Ew AL rfl AH | exact Ew (Bt AL) rfl AH),by(first | exact J9 rfl rfl | exact P3 rfl AH | exact Eu rfl ⟨_,_,by assumption,by rfl⟩ | exact Eu rfl ⟨_,_,Bt AL,by rfl⟩ | exact Ew AL rfl AH | exact Ew (Bt AL) rfl AH)⟩,?_⟩)):Hv T pr qe n m i (.call f vs) e σ fs ls K:=.inr (.inr ⟨v,σ1,.any hf,h1,h2,h⟩)
end
structure WK (σ:St) (w:Nat) (p:Gp) (th:Int) (uA uS uT:V) (A S T:List (List V)):Prop where
 row:σ[w]?=some (Fc p th uA uS uT)
 a:GS σ 11 100 uA A
 s:GS σ 1 9 uS S
 t:GS σ 1 9 uT T
 ad:∀ j∈uA.refs,j≠w/\j ∉ uS.refs/\j ∉ uT.refs
 sd:∀ j∈uS.refs,j≠w/\j ∉ uT.refs
 td:∀ j∈uT.refs,j≠w
 cl:Cl σ
theorem N6(z:Bool)(t:Nat)(l:List (List V)):(SL z t l).refs=[]:=by
 unfold SL
 split<;>rfl
theorem Aju(p:Gp)(th:Int)(uA uS uT:V):Ah (wkR p th uA uS uT)=uA.refs++(uS.refs++uT.refs):=by
 simp[Ah,N6,V.refs]
def Sv{σ:St}{w:Nat}{p:Gp}{th:Int}{uA uS uT:V}{A S T:List (List V)}(h:WK σ w p th uA uS uT A S T):w<σ.length:=(An.1 h.row).1
def Sw{σ:St}{w:Nat}{p:Gp}{th:Int}{uA uS uT:V}{A S T:List (List V)}(h:WK σ w p th uA uS uT A S T):fp σ w=w::(uA.refs++(uS.refs++uT.refs)):=by
 rw[Akk h.row,Aju]
theorem Auq{σ:St}{w:Nat}{p:Gp}{th:Int}{uA uS uT:V}{A S T:List (List V)}(h:WK σ w p th uA uS uT A S T)(l:St)(hc:Cl (σ++l)):WK (σ++l) w p th uA uS uT A S T:=by
 have k:∀ i,i<σ.length->(σ++l)[i]?=σ[i]?:=fun i hi=>Ex hi
 exact⟨by rw[k w (Sv h)];exact h.row,Ih h.a fun i hi=>k i (C0 h.a i hi),Ih h.s fun i hi=>k i (C0 h.s i hi),Ih h.t fun i hi=>k i (C0 h.t i hi),h.ad,h.sd,h.td,hc⟩
def Z8{σ σ2:St}{w:Nat}{p:Gp}{th th':Int}{uA uS uT vA vS vT:V}{A S T A' S' T':List (List V)}(h:WK σ w p th uA uS uT A S T)(hl:σ.length<=σ2.length)(hB:∀ j,j<σ.length->j ∉ uA.refs->j ∉ uS.refs->j ∉ uT.refs->σ2[j]?=σ[j]?)
  (ga:GS σ2 11 100 vA A') (gs:GS σ2 1 9 vS S') (gt:GS σ2 1 9 vT T') (rA:∀ j∈vA.refs,j∈uA.refs\/σ.length<=j) (rS:∀ j∈vS.refs,j∈uS.refs\/σ.length<=j) (rT:∀ j∈vT.refs,j∈uT.refs\/σ.length<=j)
  (d1:∀ j∈vA.refs,j ∉ vS.refs/\j ∉ vT.refs) (d2:∀ j∈vS.refs,j ∉ vT.refs) (hc:Cl σ2) :
  WK (σ2.set w (Fc p th' vA vS vT)) w p th' vA vS vT A' S' T'/\FW w σ (σ2.set w (Fc p th' vA vS vT)):=by
 have hw:=Sv h
 have nA:∀ j∈vA.refs,j≠w:=fun j hj e=>by
  rcases rA j hj with h2 | h2
  .exact(h.ad j h2).1 e
  .omega
 have nS:∀ j∈vS.refs,j≠w:=fun j hj e=>by
  rcases rS j hj with h2 | h2
  .exact(h.sd j h2).1 e
  .omega
 have nT:∀ j∈vT.refs,j≠w:=fun j hj e=>by
  rcases rT j hj with h2 | h2
  .exact h.td j h2 e
  .omega
 have ks:∀ (X:Ob) (j:Nat),j≠w->(σ2.set w X)[j]?=σ2[j]?:=fun X j hj=>B4 (Ne.symm hj)
 refine⟨⟨Cf AA,Ih ga fun i hi=>ks _ i (nA i hi),Ih gs fun i hi=>ks _ i (nS i hi),Ih gt fun i hi=>ks _ i (nT i hi),fun j hj=>⟨nA j hj,d1 j hj⟩,fun j hj=>⟨nS j hj,d2 j hj⟩,nT,F4 hc ?_⟩,?_⟩
 .grind[Ob.refs,Aju,C0]
 .have hf:=Sw h;refine Akl (τ:=σ2) ⟨hl,fun j hj hn=>?_,fun j hj=>?_⟩ hw fun j hj=>?_
  .grind
  .rw[hf];have e2:σ2[w]?=σ[w]?:=hB w hw (fun e=>(h.ad w e).1 rfl) (fun e=>(h.sd w e).1 rfl) (fun e=>h.td w e rfl)
   grind[fp]
  grind[Aju]
def Ayf{σ σ2:St}{w:Nat}{p:Gp}{th:Int}{uA uS uT:V}{A S T:List (List V)}(h:WK σ w p th uA uS uT A S T)(hB:∀ j,j<σ.length->j ∉ uA.refs->j ∉ uS.refs->j ∉ uT.refs->σ2[j]?=σ[j]?):σ2[w]?=some (Fc p th uA uS uT):=by
 rw[hB w (Sv h) (fun e=>(h.ad w e).1 rfl) (fun e=>(h.sd w e).1 rfl) (fun e=>h.td w e rfl)];exact h.row
def Boi{σ:St}{w:Nat}{p:Gp}{th:Int}{uA uS uT:V}{A S T:List (List V)}(h:WK σ w p th uA uS uT A S T)(nm:List UInt8)(hb:S.length<=1000000000):∃ u' σ2,Dx 16 (1,9) uS (.lst 1 [[.str nm]]) σ=some (u',σ2)/\u'.cellB=true/\σ2[w]?=some (Fc p th uA uS uT) /\
  WK (σ2.set w (Fc p th uA u' uT)) w p th uA u' uT A (S++[[.str nm]]) T/\FW w σ (σ2.set w (Fc p th uA u' uT)):=by
 obtain⟨u',σ2,e1,g,hl,hk,hr,hc⟩:=Wg (bytes:=16) (row:=[.str nm]) h.s AA rfl rfl AA;have hB:∀ j,j<σ.length->j ∉ uA.refs->j ∉ uS.refs->j ∉ uT.refs->σ2[j]?=σ[j]?:=fun j hj _ h2 _=>hk j hj h2
 have nn:∀ j,j<σ.length->j ∉ uS.refs->j ∉ u'.refs:=fun j hj h1 h2=>by
  grind
 exact⟨u',σ2,e1,J0 g,Ayf h hB,Z8 h hl hB (Ih h.a fun i hi=>hk i (C0 h.a i hi) (h.ad i hi).2.1) g (Ih h.t fun i hi=>hk i (C0 h.t i hi) fun e=>(h.sd i e).2 hi) (fun j hj=>.inl hj) hr (fun j hj=>.inl hj)
  (fun j hj=>⟨nn j (C0 h.a j hj) (h.ad j hj).2.1,(h.ad j hj).2.2⟩) (fun j hj ht=>nn j (C0 h.t j ht) (fun e=>(h.sd j e).2 ht) hj) (hc h.cl)⟩
def Xk{σ:St}{w:Nat}{p:Gp}{th:Int}{uA uS uT:V}{A S T:List (List V)}(h:WK σ w p th uA uS uT A S T)(nm:List UInt8)(hb:T.length<=1000000000):∃ u' σ2,Dx 16 (1,9) uT (.lst 1 [[.str nm]]) σ=some (u',σ2)/\u'.cellB=true/\σ2[w]?=some (Fc p th uA uS uT) /\
  WK (σ2.set w (Fc p th uA uS u')) w p th uA uS u' A S (T++[[.str nm]])/\FW w σ (σ2.set w (Fc p th uA uS u')):=by
 obtain⟨u',σ2,e1,g,hl,hk,hr,hc⟩:=Wg (bytes:=16) (row:=[.str nm]) h.t AA rfl rfl AA;have hB:∀ j,j<σ.length->j ∉ uA.refs->j ∉ uS.refs->j ∉ uT.refs->σ2[j]?=σ[j]?:=fun j hj _ _ h2=>hk j hj h2
 have nn:∀ j,j<σ.length->j ∉ uT.refs->j ∉ u'.refs:=fun j hj h1 h2=>by
  grind
 exact⟨u',σ2,e1,J0 g,Ayf h hB,Z8 h hl hB (Ih h.a fun i hi=>hk i (C0 h.a i hi) (h.ad i hi).2.2) (Ih h.s fun i hi=>hk i (C0 h.s i hi) (h.sd i hi).2) g (fun j hj=>.inl hj) (fun j hj=>.inl hj) hr
  (fun j hj=>⟨(h.ad j hj).2.1,nn j (C0 h.a j hj) (h.ad j hj).2.2⟩) (fun j hj=>nn j (C0 h.s j hj) (h.sd j hj).2) (hc h.cl)⟩
def Awu{R:V->Prop}{f p:Nat}{res:List AR}{body:AC}{vs:List V}{σ:St}(hT:TT f=some ⟨p,res,true,body,none⟩)(hl:vs.length=p)(h:W TT PT [.c body] (C7 0 vs) σ (Hd fun e' σ1=>∃ v,Ca e' σ1 res=some v/\(Cd v=true/\v.refs=[])/\(∃ l,σ1=σ++l)/\R v)):∃ v,Th TT PT f vs σ v σ/\R v:=by
 obtain⟨e',_,hE,v,hr,⟨h1,h2⟩,⟨l,rfl⟩,h3⟩:=h;exact⟨v,Aq2 hT rfl rfl hl ⟨e',_,hE,hr,⟨h1,by rw[h2];rfl,fun i ob hi ho=>.inl (by grind)⟩,by grind⟩,h3⟩
def Ajv{R:V->St->Prop}{f p:Nat}{res:List AR}{body:AC}{vs:List V}{σ:St}(hT:TT f=some ⟨p,res,true,body,none⟩)(hl:vs.length=p)(h:W TT PT [.c body] (C7 0 vs) σ (Hd fun e' σ1=>∃ v,Ca e' σ1 res=some v/\(Cd v=true/\v.refs=[])/\(σ.length<=σ1.length/\Cl σ1)/\R v σ1)):∃ v σ',Th TT PT f vs σ v σ'/\R v σ':=by
 obtain⟨e',σ1,hE,v,hr,⟨h1,h2⟩,⟨h3,h4⟩,h5⟩:=h;exact⟨v,σ1,Aee hT hl ⟨e',σ1,hE,hr,rfl⟩ h2 h1 h3 h4,h5⟩
def Ayg{m j g off len i:Nat}{w:Bool}{k:IntKind}(h:i<len):Lx m (.sl j g off len m w) (.int k (i:Int))=some (.ptr j g (off+i*m)):=by
 simp_all [Lx]
set_option maxHeartbeats 1000000 in
def Qm{σ:St}{w:Nat}{p:Gp}{th:Int}{uA uS uT:V}{X:List Sp}{S T:List (List V)}(h:WK σ w p th uA uS uT (X.map Sp.row) S T)(hX:X.length<=1000000000)(a b:Int)(nm:List UInt8):∃ v,Th TT PT 155 [.ptr w 0 0,iV a,iV b,.str nm] σ v σ/\∃ z,v=.bool z:=by
 have qj:=Z4 h.a;have n1:(X.map Sp.row).length=X.length:=Av ..;rw[n1]at qj;refine Awu T155 rfl ?_;simp only[go_sem];refine Bb (α:=Nat × St) (fun a=>X.length - a.1) (fun x=>[(0,.ptr w 0 0),(1,iV a),(2,iV b),(3,.str nm),(9,iV (x.1:Int))]) (fun x=>x.2) (fun x=>x.1<=X.length/\∃ l,x.2=σ++l) ?_ (0,σ) ⟨As _,[],by simp⟩;rintro⟨i,_⟩ ⟨hi,l,rfl⟩ ih;simp only at hi ih;have hr:=Bt (l:=l) h.row;refine Ay Bf9 ?_;rcases Az i X.length with h' | h'
 .obtain⟨x,hx,-,-⟩:=Bk h';obtain⟨j,g,cs,rfl,ho,hb,qy⟩:=Bfe (i:=i) (row:=x.row) h.a (by grind);rw[n1]at hr qj;have hj:=Bt (l:=l) ho
  have qB:L7 (σ++l)[j]? g 11 false (i*11)=some (.agg x.row):=by
   rw[hj];simp only[L7];rw[if_pos ⟨trivial,by omega⟩,qy];rfl
  have qH:=He x;have ql:=Fr x;rw[ql]at qB qH
  cases qa:(x.op==a)<;>cases qb:(x.op==b)<;>cases qn:(nm==[])<;>cases qx:(x.nm==nm)
  all_goals
   simp only[go_sem,hr,qj,Aq h',Ayg h',qB,qa,qb,qn,qx,Aw (show i<9223372036854775807 by omega)]
   first
    | exact⟨_,rfl,⟨rfl,rfl⟩,⟨_,rfl⟩,_,rfl⟩
    | exact Ai (ih (i+1,_) AA ⟨h',_,rfl⟩) rfl
 .simp only[go_sem,hr,qj,Bj h'];exact⟨_,rfl,⟨rfl,rfl⟩,⟨_,rfl⟩,_,rfl⟩
