/- Walks: the tables of lengths, both sides. -/
import Derived.Test.YthlbbjcbmojocaaGreatDoorUc
set_option linter.all false
namespace Go.Proofs.YthlbbjcbmojocaaGreatDoor.KM
open Go
def tk1{l:List V}{i:Nat}{x:V}(h:l[i]?=some x):List.take 1 (List.drop i l)=[x]:=by
 obtain⟨h1,h2⟩:=Ap.1 h;rw[Fv h1,h2];rfl
def tds{l:List V}{i:Nat}(h:i<l.length)(x:V):List.take i l++x::List.drop (i+1) l=l.set i x:=by
 rw[List.set_eq_take_append_cons_drop,if_pos h]
def Sq(n:Nat)(v:V):(List.replicate n [v]).flatten=List.replicate n v:=by
 induction n with
 | zero=>rfl
 | succ n ih=>rw[U2,Ey,ih];rfl
def Jo(l:List Int):(Bl l).length=l.length:=by unfold Bl;rw[Ba]
def Q4{l:List Int}{i:Nat}{x:Int}(h:l[i]?=some x):List.take 1 (List.drop i (Bl l))=[iV x]:=tk1 (Aw4 h)
def S6{l:List Int}{i:Nat}(h:i<l.length)(x:Int):List.take i (Bl l)++iV x::List.drop (i+1) (Bl l)=Bl (l.set i x):=by
 rw[tds (by rw[Jo];exact h),Aw5]
def Aua{n m i:Nat}(hi:i<n):List.take i (Ek n m (i+1))++V.sl (1+(n - i)) 0 0 (m+1) 1 true::List.drop (i+1) (Ek n m (i+1))=Ek n m i:=by
 rw[tds (by rw[Zx];omega)];exact Aw6 hi
def Anq{n m i k:Nat}(h:i<=k)(hk:k<=n):List.take 1 (List.drop k (Ek n m i))=[.sl (1+(n - k)) 0 0 (m+1) 1 true]:=tk1 (Aw7 h hk)
def Aub(X Y:List (List UInt8))(OT IT:Nat):([.row (Ek X.length Y.length X.length) OT 0 0,.row (List.replicate (Y.length+1) (iV 0)) IT 0 0]:St)=Fi OT IT X.length Y.length X.length (Et X Y (X.length - X.length+1)):=by
 rw[Gc];unfold Fi Et;rw[Fe,List.range_one,Yd,Yd,Ac2,Alu,V5]
def Axa(X Y:List (List UInt8))(OT IT i:Nat)(hi:i<X.length):(Fi OT IT X.length Y.length (i+1) (Et X Y (X.length - i))++[Ob.row (List.replicate (Y.length+1) (iV 0)) IT 0 0]).set 0 (.row (Ek X.length Y.length i) OT 0 0)=Fi OT IT X.length Y.length i (Et X Y (X.length - i)++[C9 X Y i Y.length]):=by
 rw[V5,A01,Alt];rfl
set_option maxHeartbeats 4000000 in
def Asr(z1 z2:Bool)(t1 t2:Nat)(X Y:List (List UInt8))(hX:X.length<=1000000)(hY:Y.length<=1000000):Fn TT PT 31 [SL z1 t1 (X.map fun x=>[V.str x]),SL z2 t2 (Y.map fun x=>[V.str x])] (Rq (Ix X Y)):=by
 refine Apa T31 rfl ?_;have qk:(X.map fun x=>[V.str x]).length=X.length:=Ba ..;have qf:(Y.map fun x=>[V.str x]).length=Y.length:=Ba ..;obtain⟨N,hN⟩:∃ N,N=X.length+1:=⟨_,rfl⟩;obtain⟨M,hM⟩:∃ M,M=Y.length+1:=⟨_,rfl⟩;have w1:IntKind.i64.wrap ((X.length:Int)+1)=(N:Int):=by rw[hN];exact Bf (by omega)
 have w2:IntKind.i64.wrap ((Y.length:Int)+1)=(M:Int):=by rw[hM];exact Bf (by omega)
 have w3:IntKind.i64.wrap ((X.length:Int) - 1)=(X.length:Int) - 1:=C7 (by omega);have w4:IntKind.i64.wrap ((Y.length:Int) - 1)=(Y.length:Int) - 1:=C7 (by omega);have a1:(0<=(N:Int))=True:=eq_true (by omega);have a2:((N:Int)<=(N:Int))=True:=eq_true (Sd _);have a3:(N*24<=140737488355328)=True:=eq_true (by omega);have b1:(0<=(M:Int))=True:=eq_true (by omega);have b2:((M:Int)<=(M:Int))=True:=eq_true (Sd _);have b3:(M*8<=140737488355328)=True:=eq_true (by omega);have c1:(0<=(X.length:Int))=True:=eq_true (by omega);have c2:((X.length:Int)<(N:Int))=True:=eq_true (by omega);have c3:∀ n:Nat,(0<=n)=True:=fun n=>eq_true (Ay n)
 have c4:(X.length+1<=(List.replicate N V.nils).length)=True:=eq_true (by rw[P4];omega)
 have e1:List.take X.length (List.replicate N V.nils)++V.sl 1 0 0 M 1 true::List.drop (X.length+1) (List.replicate N V.nils)=Ek X.length Y.length X.length:=by
  rw[tds (by rw[P4];omega),hN,hM];exact At4 _ _
 simp only[go_sem,qk,qf,w1,w2,w3,a1,a2,a3,b1,b2,b3,c1,c2,c3,c4,Sq,e1];rw[hM,Aub X Y];refine Bv (α:=Nat) (fun i=>i) (fun i=>[(0,SL z1 t1 (X.map fun x=>[V.str x])),(1,SL z2 t2 (Y.map fun x=>[V.str x])),(5,.sl 0 0 0 N 1 true),(6,iV ((i:Int) - 1))]) (fun i=>Fi 32 3 X.length Y.length i (Et X Y (X.length - i+1))) (fun i=>i<=X.length) ?_ X.length (Ah _);intro i hi ih;refine Bw (by delta lp31_1;exact rfl) ?_
 cases i with
 | zero=>
  have d0:decide ((0:Int)<=0 - 1)=false:=by decide
  simp only[go_sem,d0];unfold Hd;refine⟨0,32,0,vL X Y,?_,?_,?_,A4w X Y⟩
  .rw[A4v,<-hN];rfl
  .rw[A4x];rfl
  .have:=A03 32 3 X Y;simpa using this
 | succ i=>
 have qb:i<X.length:=hi;have q1:(((i+1:Nat):Int) - 1)=(i:Int):=by omega
 have q2:X.length - (i+1)+1=X.length - i:=by omega
 have d0:decide ((0:Int)<=(i:Int))=true:=by simp
 simp only[q1,q2];generalize hs:Fi 32 3 X.length Y.length (i+1) (Et X Y (X.length - i))=s;have jd:s.length=1+(X.length - i):=by rw[<-hs,A00,So]
 have k0:(s++[Ob.row (List.replicate M (iV 0)) 3 0 0])[0]?=some (.row (Ek X.length Y.length (i+1)) 32 0 0):=by rw[<-hs];rfl
 have g1:(0<=(i:Int))=True:=eq_true (by omega);have g2:((i:Int)<(N:Int))=True:=eq_true (by omega);have g3:(i+1<=(Ek X.length Y.length (i+1)).length)=True:=eq_true (by rw[Zx];omega);have e2:List.take i (Ek X.length Y.length (i+1))++V.sl (1+(X.length - i)) 0 0 M 1 true::List.drop (i+1) (Ek X.length Y.length (i+1))=Ek X.length Y.length i:=by rw[hM];exact Aua qb
 have e3:(s++[Ob.row (List.replicate M (iV 0)) 3 0 0]).set 0 (.row (Ek X.length Y.length i) 32 0 0)=Fi 32 3 X.length Y.length i (Et X Y (X.length - i)++[C9 X Y i Y.length]):=by rw[<-hs,hM];exact Axa X Y _ _ i qb
 simp only[go_sem,d0,qf,w2,w4,b1,b2,b3,c3,jd,k0,g1,g2,g3,Sq,e2,e3];refine Bv (α:=Nat) (fun j=>j) (fun j=>[(0,SL z1 t1 (X.map fun x=>[V.str x])),(1,SL z2 t2 (Y.map fun x=>[V.str x])),(5,.sl 0 0 0 N 1 true),(6,iV (i:Int)),(7,iV ((j:Int) - 1))]) (fun j=>Fi 32 3 X.length Y.length i (Et X Y (X.length - i)++[C9 X Y i j])) (fun j=>j<=Y.length) ?_ Y.length (Ah _);intro j hj jh;refine Bw (by delta lp31_0;exact rfl) ?_
 cases j with
 | zero=>
  have d0:decide ((0:Int)<=0 - 1)=false:=by decide
  have w5:IntKind.i64.wrap ((i:Int) - 1)=(i:Int) - 1:=C7 (by omega);simp only[go_sem,d0,w5];rw[Vo,Asn X Y (Mm qb)];exact Bd (ih i (by omega) (by omega)) rfl
 | succ j=>
 have qg:j<Y.length:=hj;have q3:(((j+1:Nat):Int) - 1)=(j:Int):=by omega
 have d1:decide ((0:Int)<=(j:Int))=true:=by simp
 have qr:=jh j (Acn j) (by omega);simp only[q3];obtain⟨x,hx,-,-⟩:=Cw qb;obtain⟨y,hy,-,-⟩:=Cw qg;have qx:X[i]=x/\Y[j]=y:=⟨(Ap.1 hx).2,(Ap.1 hy).2⟩;have ql:=A0w X Y qb qg;rw[qx.1,qx.2]at ql;have l1:=Aai X Y (i+1) (j+1);have r0:(Fi 32 3 X.length Y.length i (Et X Y (X.length - i)++[C9 X Y i (j+1)]))[1+(X.length - i)]?=some (.row (Bl (C9 X Y i (j+1))) 3 0 0):=Ae1 _ _ _ _ _ (At5 X Y i _);have r1:(Fi 32 3 X.length Y.length i (Et X Y (X.length - i)++[C9 X Y i (j+1)]))[1+(X.length - (i+1))]?=some (.row (Bl (Fl X Y (i+1))) 3 0 0):=Ae1 _ _ _ _ _ (Asm X Y qb _);have r2:(Fi 32 3 X.length Y.length i (Et X Y (X.length - i)++[C9 X Y i (j+1)]))[0]?=some (.row (Ek X.length Y.length i) 32 0 0):=rfl;have e4:(Fi 32 3 X.length Y.length i (Et X Y (X.length - i)++[C9 X Y i (j+1)])).set (1+(X.length - i)) (.row (Bl (C9 X Y i j)) 3 0 0)=Fi 32 3 X.length Y.length i (Et X Y (X.length - i)++[C9 X Y i j]):=by rw[A02,At6]
 rw[<-e4]at qr;generalize Fi 32 3 X.length Y.length i (Et X Y (X.length - i)++[C9 X Y i (j+1)])=s2 at *;have o1:List.take 1 (List.drop i (Ek X.length Y.length i))=[.sl (1+(X.length - i)) 0 0 M 1 true]:=by rw[hM];exact Anq (Ah _) (by omega)
 have o2:List.take 1 (List.drop (i+1) (Ek X.length Y.length i))=[.sl (1+(X.length - (i+1))) 0 0 M 1 true]:=by rw[hM];exact Anq (by omega) (by omega)
 have o3:(i+1<=(Ek X.length Y.length i).length)=True:=eq_true (by rw[Zx];omega);have o4:(i+1+1<=(Ek X.length Y.length i).length)=True:=eq_true (by rw[Zx];omega);have i1:IntKind.i64.wrap ((i:Int)+1)=((i+1:Nat):Int):=Bf (by omega);have i2:(0<=((i+1:Nat):Int))=True:=eq_true (by omega);have i3:(((i+1:Nat):Int)<(N:Int))=True:=eq_true (by omega);have j0:(0<=(j:Int))=True:=eq_true (by omega);have j1:IntKind.i64.wrap ((j:Int)+1)=((j+1:Nat):Int):=Bf (by omega);have j2:(0<=((j+1:Nat):Int))=True:=eq_true (by omega);have j3:(((j+1:Nat):Int)<(M:Int))=True:=eq_true (by omega);have j4:((j:Int)<(M:Int))=True:=eq_true (by omega);have j5:IntKind.i64.wrap ((j:Int) - 1)=(j:Int) - 1:=C7 (by omega);have m1:(j+1<=(Bl (C9 X Y i (j+1))).length)=True:=eq_true (by rw[Jo,Oz];omega);have m2:(j+1+1<=(Bl (C9 X Y i (j+1))).length)=True:=eq_true (by rw[Jo,Oz];omega);have m3:(j+1+1<=(Bl (Fl X Y (i+1))).length)=True:=eq_true (by rw[Jo,S0];omega);have m4:(j+1<=(Bl (Fl X Y (i+1))).length)=True:=eq_true (by rw[Jo,S0];omega);have n1:=Q4 (O0 X Y (i:=i+1) (k:=j+1) qg);have n2:=Q4 (O0 X Y (i:=i+1) (k:=j) (Mm qg));have n3:=Q4 (Aee X Y (i:=i) (j:=j+1) (k:=j+1) qg (Ah _));have e5:List.take j (Bl (C9 X Y i (j+1)))++iV (B5 X Y i j:Int)::List.drop (j+1) (Bl (C9 X Y i (j+1)))=Bl (C9 X Y i j):=by rw[S6 (by rw[Oz];omega),S3 X Y qg]
 by_cases e:x=y
 .rw[if_pos e]at ql;have f1:(x==y)=true:=by simp[e]
  have f2:IntKind.i64.wrap (1+((B5 X Y (i+1) (j+1):Nat):Int))=((B5 X Y i j:Nat):Int):=by rw[ql,C7 (by omega)];rfl
  simp only[go_sem,d1];refine Ag (by kernel_rfl) ?_;simp only[go_sem,Aq,hx,hy];simp only[go_sem,f1];refine Ag (by kernel_rfl) ?_;simp only[go_sem,r0,r1,r2,o1,o2,o3,o4,g1,g2,i1,i2,i3,j0,j1,j2,j3,j4,m1,m2,m3,m4,n1,n2,n3,c3];simp only[go_sem,f2,r0,m1,e5,c3];refine Z2 (by repeat (first | exact trivial | refine⟨.inl (by rfl),?_⟩ | refine⟨by rfl,?_⟩ | refine⟨.inr ⟨by rfl,by rfl⟩,?_⟩)) (by repeat (first | exact trivial | refine⟨.inl (by rfl),?_⟩ | refine⟨by rfl,?_⟩ | refine⟨.inr ⟨by rfl,by rfl⟩,?_⟩)) ?_;simp only[go_sem,j5];exact Bd qr rfl
 .rw[if_neg e]at ql;have f1:(x==y)=false:=by simp[e]
  have f2:max ((B5 X Y (i+1) j:Nat):Int) ((B5 X Y i (j+1):Nat):Int)=((B5 X Y i j:Nat):Int):=by rw[ql];omega
  simp only[go_sem,d1];refine Ag (by kernel_rfl) ?_;simp only[go_sem,Aq,hx,hy];simp only[go_sem,f1];refine Ag (by kernel_rfl) ?_;simp only[go_sem,r0,r1,r2,o1,o2,o3,o4,g1,g2,i1,i2,i3,j0,j1,j2,j3,j4,m1,m2,m3,m4,n1,n2,n3,c3];simp only[go_sem,f2,r0,m1,e5,c3];refine Z2 (by repeat (first | exact trivial | refine⟨.inl (by rfl),?_⟩ | refine⟨by rfl,?_⟩ | refine⟨.inr ⟨by rfl,by rfl⟩,?_⟩)) (by repeat (first | exact trivial | refine⟨.inl (by rfl),?_⟩ | refine⟨by rfl,?_⟩ | refine⟨.inr ⟨by rfl,by rfl⟩,?_⟩)) ?_;simp only[go_sem,j5];exact Bd qr rfl
/-! the reference's table -/
def Auc{n m i:Nat}(hi:i<=n):List.take i (El n m i)++V.sl (1+i) 0 0 (m+1) 1 true::List.drop (i+1) (El n m i)=El n m (i+1):=by
 rw[tds (by rw[Zy];omega)];exact Aw8 hi
def Anr{n m i k:Nat}(h:k<i)(hk:k<=n):List.take 1 (List.drop k (El n m i))=[.sl (1+k) 0 0 (m+1) 1 true]:=tk1 (Aw9 h hk)
def Axb(OT IT n m M k:Nat):(Ds OT IT n m k (List.replicate k (List.replicate M 0))++[Ob.row (List.replicate M (iV 0)) IT 0 0]).set 0 (.row (El n m (k+1)) OT 0 0)=Ds OT IT n m (k+1) (List.replicate (k+1) (List.replicate M 0)):=by
 rw[V5,A05,<-List.replicate_succ'];rfl
set_option maxHeartbeats 4000000 in
def Ass(z1 z2:Bool)(t1 t2:Nat)(X Y:List (List UInt8))(hX:X.length<=1000000)(hY:Y.length<=1000000):Fn TT PT 33 [SL z1 t1 (X.map fun x=>[V.str x]),SL z2 t2 (Y.map fun x=>[V.str x])] (Rq (Ix X Y)):=by
 refine Apa T33 rfl ?_;have qk:(X.map fun x=>[V.str x]).length=X.length:=Ba ..;have qf:(Y.map fun x=>[V.str x]).length=Y.length:=Ba ..;obtain⟨N,hN⟩:∃ N,N=X.length+1:=⟨_,rfl⟩;obtain⟨M,hM⟩:∃ M,M=Y.length+1:=⟨_,rfl⟩;have w1:IntKind.i64.wrap ((X.length:Int)+1)=(N:Int):=by rw[hN];exact Bf (by omega)
 have w2:IntKind.i64.wrap ((Y.length:Int)+1)=(M:Int):=by rw[hM];exact Bf (by omega)
 have w3:IntKind.i64.wrap ((X.length:Int) - 1)=(X.length:Int) - 1:=C7 (by omega);have w4:IntKind.i64.wrap ((Y.length:Int) - 1)=(Y.length:Int) - 1:=C7 (by omega);have a1:(0<=(N:Int))=True:=eq_true (by omega);have a2:((N:Int)<=(N:Int))=True:=eq_true (Sd _);have a3:(N*24<=140737488355328)=True:=eq_true (by omega);have b1:(0<=(M:Int))=True:=eq_true (by omega);have b2:((M:Int)<=(M:Int))=True:=eq_true (Sd _);have b3:(M*8<=140737488355328)=True:=eq_true (by omega);have c3:∀ n:Nat,(0<=n)=True:=fun n=>eq_true (Ay n)
 have jt:([.row (List.replicate N V.nils) 32 0 0]:St)=Ds 32 3 X.length Y.length 0 (List.replicate 0 (List.replicate M 0)):=by
  unfold Ds;rw[At7,hN];rfl
 simp only[go_sem,qk,w1,a1,a2,a3,Sq];rw[jt];refine Bv (α:=Nat) (fun k=>N - k) (fun k=>[(0,SL z1 t1 (X.map fun x=>[V.str x])),(1,SL z2 t2 (Y.map fun x=>[V.str x])),(5,.sl 0 0 0 N 1 true),(14,iV (N:Int)),(15,iV (k:Int))]) (fun k=>Ds 32 3 X.length Y.length k (List.replicate k (List.replicate M 0))) (fun k=>k<=N) ?_ 0 (Ay _);intro k hk kh;refine Bw (by delta lp33_0;exact rfl) ?_;rcases Br k N with qc | qc
 .generalize hs:Ds 32 3 X.length Y.length k (List.replicate k (List.replicate M 0))=s;have jd:s.length=1+k:=by rw[<-hs,A04,P4]
  have k0:(s++[Ob.row (List.replicate M (iV 0)) 3 0 0])[0]?=some (.row (El X.length Y.length k) 32 0 0):=by rw[<-hs];rfl
  have g1:(0<=(k:Int))=True:=eq_true (by omega);have g2:((k:Int)<(N:Int))=True:=eq_true (by omega);have g3:(k+1<=(El X.length Y.length k).length)=True:=eq_true (by rw[Zy];omega);have e2:List.take k (El X.length Y.length k)++V.sl (1+k) 0 0 M 1 true::List.drop (k+1) (El X.length Y.length k)=El X.length Y.length (k+1):=by rw[hM];exact Auc (by omega)
  have e3:(s++[Ob.row (List.replicate M (iV 0)) 3 0 0]).set 0 (.row (El X.length Y.length (k+1)) 32 0 0)=Ds 32 3 X.length Y.length (k+1) (List.replicate (k+1) (List.replicate M 0)):=by rw[<-hs];exact Axb _ _ _ _ _ k
  simp only[go_sem,Bp qc,qf,w2,b1,b2,b3,c3,jd,k0,g1,g2,g3,Sq,e2,e3,Bf (show k<9223372036854775807 by omega)];exact Bd (kh (k+1) (by omega) qc) rfl
 obtain rfl:k=N:=by omega
 clear kh;simp only[go_sem,Ce qc,qk,w3];rw[show List.replicate k (List.replicate M (0:Int))=Dw X Y X.length 0 by rw[Ars,hN,hM],hN];refine Bv (α:=Nat) (fun i=>i) (fun i=>[(0,SL z1 t1 (X.map fun x=>[V.str x])),(1,SL z2 t2 (Y.map fun x=>[V.str x])),(5,.sl 0 0 0 (X.length+1) 1 true),(7,iV ((i:Int) - 1))]) (fun i=>Ds 32 3 X.length Y.length (X.length+1) (Dw X Y i 0)) (fun i=>i<=X.length) ?_ X.length (Ah _);intro i hi ih;refine Bw (by delta lp33_2;exact rfl) ?_
 cases i with
 | zero=>
  have d0:decide ((0:Int)<=0 - 1)=false:=by decide
  rw[Asq];simp only[go_sem,d0];unfold Hd;refine⟨0,32,0,rL X Y,?_,?_,A06 _ _ _ X Y,A4z X Y⟩
  .rw[A4y];rfl
  .rw[A40];rfl
 | succ i=>
 have qb:i<X.length:=hi;have q1:(((i+1:Nat):Int) - 1)=(i:Int):=by omega
 have d0:decide ((0:Int)<=(i:Int))=true:=by simp
 have g1:(0<=(i:Int))=True:=eq_true (by omega);have g2:((i:Int)<((X.length+1:Nat):Int))=True:=eq_true (by omega);simp only[q1];rw[Aso X Y qb];simp only[go_sem,d0,qf,w4];refine Bv (α:=Nat) (fun j=>j) (fun j=>[(0,SL z1 t1 (X.map fun x=>[V.str x])),(1,SL z2 t2 (Y.map fun x=>[V.str x])),(5,.sl 0 0 0 (X.length+1) 1 true),(7,iV (i:Int)),(8,iV ((j:Int) - 1))]) (fun j=>Ds 32 3 X.length Y.length (X.length+1) (Dw X Y i j)) (fun j=>j<=Y.length) ?_ Y.length (Ah _);intro j hj jh;refine Bw (by delta lp33_1;exact rfl) ?_
 cases j with
 | zero=>
  have d0:decide ((0:Int)<=0 - 1)=false:=by decide
  have w5:IntKind.i64.wrap ((i:Int) - 1)=(i:Int) - 1:=C7 (by omega);simp only[go_sem,d0,w5];exact Bd (ih i (by omega) (by omega)) rfl
 | succ j=>
 have qg:j<Y.length:=hj;have q3:(((j+1:Nat):Int) - 1)=(j:Int):=by omega
 have d1:decide ((0:Int)<=(j:Int))=true:=by simp
 have qr:=jh j (Acn j) (by omega);simp only[q3];obtain⟨x,hx,-,-⟩:=Cw qb;obtain⟨y,hy,-,-⟩:=Cw qg;have qx:X[i]=x/\Y[j]=y:=⟨(Ap.1 hx).2,(Ap.1 hy).2⟩;have ql:=Awy X Y qb qg;rw[qx.1,qx.2]at ql;have l1:=Aai X Y (i+1) (j+1);obtain⟨v1,je⟩:∃ v1:Int,max ((B5 X Y (i+1) j:Nat):Int) ((B5 X Y i (j+1):Nat):Int)=v1:=⟨_,rfl⟩;obtain⟨R1,qA⟩:∃ R1:List Int,R1=(C9 X Y i (j+1)).set j v1:=⟨_,rfl⟩;have jn:R1.length=Y.length+1:=by rw[qA,Gx,Oz]
 have qV:R1[j]?=some v1:=by rw[qA,Cc (by rw[Oz];omega)]
 have qW:=At9 X Y (i:=i) (j:=j+1) (Mm qb);have qm:=Asp X Y (j:=j+1) qb;have jw:=At8 X Y i (j+1);have r0:(Ds 32 3 X.length Y.length (X.length+1) (Dw X Y i (j+1)))[1+i]?=some (.row (Bl (C9 X Y i (j+1))) 3 0 0):=Ws _ _ _ _ _ qW;have r1:(Ds 32 3 X.length Y.length (X.length+1) (Dw X Y i (j+1)))[1+(i+1)]?=some (.row (Bl (Fl X Y (i+1))) 3 0 0):=Ws _ _ _ _ _ qm;have r2:(Ds 32 3 X.length Y.length (X.length+1) (Dw X Y i (j+1)))[0]?=some (.row (El X.length Y.length (X.length+1)) 32 0 0):=rfl;have e4:(Ds 32 3 X.length Y.length (X.length+1) (Dw X Y i (j+1))).set (1+i) (.row (Bl R1) 3 0 0)=Ds 32 3 X.length Y.length (X.length+1) ((Dw X Y i (j+1)).set i R1):=by rw[Anp]
 have s0:(Ds 32 3 X.length Y.length (X.length+1) ((Dw X Y i (j+1)).set i R1))[1+i]?=some (.row (Bl R1) 3 0 0):=Ws _ _ _ _ _ (by rw[Cc (by omega)]);have s1:(Ds 32 3 X.length Y.length (X.length+1) ((Dw X Y i (j+1)).set i R1))[1+(i+1)]?=some (.row (Bl (Fl X Y (i+1))) 3 0 0):=Ws _ _ _ _ _ (by rw[Bg (by omega)];exact qm);have s2:(Ds 32 3 X.length Y.length (X.length+1) ((Dw X Y i (j+1)).set i R1))[0]?=some (.row (El X.length Y.length (X.length+1)) 32 0 0):=rfl
 have e6:(Ds 32 3 X.length Y.length (X.length+1) ((Dw X Y i (j+1)).set i R1)).set (1+i) (.row (Bl (C9 X Y i j)) 3 0 0)=Ds 32 3 X.length Y.length (X.length+1) (Dw X Y i j):=by
  rw[Anp,Qk,<-Ajz X Y (Mm qb) qg,S3 X Y qg]
 have e7:R1=C9 X Y i j->Ds 32 3 X.length Y.length (X.length+1) ((Dw X Y i (j+1)).set i R1)=Ds 32 3 X.length Y.length (X.length+1) (Dw X Y i j):=fun h=>by
  rw[h,<-S3 X Y qg,Ajz X Y (Mm qb) qg]
 generalize Ds 32 3 X.length Y.length (X.length+1) ((Dw X Y i (j+1)).set i R1)=s3 at *;generalize Ds 32 3 X.length Y.length (X.length+1) (Dw X Y i (j+1))=s4 at *;have o1:List.take 1 (List.drop i (El X.length Y.length (X.length+1)))=[.sl (1+i) 0 0 M 1 true]:=by rw[hM];exact Anr (by omega) (by omega)
 have o2:List.take 1 (List.drop (i+1) (El X.length Y.length (X.length+1)))=[.sl (1+(i+1)) 0 0 M 1 true]:=by rw[hM];exact Anr (by omega) (by omega)
 have o3:(i+1<=(El X.length Y.length (X.length+1)).length)=True:=eq_true (by rw[Zy];omega);have o4:(i+1+1<=(El X.length Y.length (X.length+1)).length)=True:=eq_true (by rw[Zy];omega);generalize El X.length Y.length (X.length+1)=O at *;have i1:IntKind.i64.wrap ((i:Int)+1)=((i+1:Nat):Int):=Bf (by omega);have i2:(0<=((i+1:Nat):Int))=True:=eq_true (by omega);have i3:(((i+1:Nat):Int)<((X.length+1:Nat):Int))=True:=eq_true (by omega);have j0:(0<=(j:Int))=True:=eq_true (by omega);have j1:IntKind.i64.wrap ((j:Int)+1)=((j+1:Nat):Int):=Bf (by omega);have j2:(0<=((j+1:Nat):Int))=True:=eq_true (by omega);have j3:(((j+1:Nat):Int)<(M:Int))=True:=eq_true (by omega);have j4:((j:Int)<(M:Int))=True:=eq_true (by omega);have j5:IntKind.i64.wrap ((j:Int) - 1)=(j:Int) - 1:=C7 (by omega);have m1:(j+1<=(Bl (C9 X Y i (j+1))).length)=True:=eq_true (by rw[Jo,Oz];omega);have m2:(j+1+1<=(Bl (C9 X Y i (j+1))).length)=True:=eq_true (by rw[Jo,Oz];omega);have m3:(j+1+1<=(Bl (Fl X Y (i+1))).length)=True:=eq_true (by rw[Jo,S0];omega);have m4:(j+1<=(Bl (Fl X Y (i+1))).length)=True:=eq_true (by rw[Jo,S0];omega);have m5:(j+1<=(Bl R1).length)=True:=eq_true (by rw[Jo];omega);have n1:=Q4 (O0 X Y (i:=i+1) (k:=j+1) qg);have n2:=Q4 (O0 X Y (i:=i+1) (k:=j) (Mm qg));have n3:=Q4 (Aee X Y (i:=i) (j:=j+1) (k:=j+1) qg (Ah _));have n4:=Q4 qV;have e5:List.take j (Bl (C9 X Y i (j+1)))++iV v1::List.drop (j+1) (Bl (C9 X Y i (j+1)))=Bl R1:=by rw[S6 (by rw[Oz];omega),qA]
 have e8:List.take j (Bl R1)++iV (B5 X Y i j:Int)::List.drop (j+1) (Bl R1)=Bl (C9 X Y i j):=by rw[S6 (by omega),qA,Qk,S3 X Y qg]
 simp only[go_sem,d1];refine Ag (by kernel_rfl) ?_;simp only[go_sem,r0,r1,r2,o1,o2,o3,o4,g1,g2,i1,i2,i3,j0,j1,j2,j3,j4,m1,m2,m3,m4,n1,n2,n3,c3];simp only[go_sem,je,r0,m1,e5,e4,c3];refine Z2 (by repeat (first | exact trivial | refine⟨.inl (by rfl),?_⟩ | refine⟨by rfl,?_⟩ | refine⟨.inr ⟨by rfl,by rfl⟩,?_⟩)) (by repeat (first | exact trivial | refine⟨.inl (by rfl),?_⟩ | refine⟨by rfl,?_⟩ | refine⟨.inr ⟨by rfl,by rfl⟩,?_⟩)) ?_;simp only[go_sem];by_cases e:x=y
 .rw[if_pos e]at ql;have f1:(x==y)=true:=by simp[e]
  have f2:IntKind.i64.wrap (1+((B5 X Y (i+1) (j+1):Nat):Int))=((1+B5 X Y (i+1) (j+1):Nat):Int):=by rw[C7 (by omega)];rfl
  have f3:max v1 ((1+B5 X Y (i+1) (j+1):Nat):Int)=((B5 X Y i j:Nat):Int):=by rw[<-je,ql];omega
  refine Ag (by kernel_rfl) ?_;simp only[go_sem,Aq,hx,hy];simp only[go_sem,f1];refine Ag (by kernel_rfl) ?_;simp only[go_sem,s0,s1,s2,o1,o2,o3,o4,g1,g2,i1,i2,i3,j0,j1,j2,j3,j4,m3,m5,n1,n4,c3];simp only[go_sem,f2,f3,s0,m5,e8,e6,c3];refine Z2 (by repeat (first | exact trivial | refine⟨.inl (by rfl),?_⟩ | refine⟨by rfl,?_⟩ | refine⟨.inr ⟨by rfl,by rfl⟩,?_⟩)) (by repeat (first | exact trivial | refine⟨.inl (by rfl),?_⟩ | refine⟨by rfl,?_⟩ | refine⟨.inr ⟨by rfl,by rfl⟩,?_⟩)) ?_;simp only[go_sem,j5];exact Bd qr rfl
 .rw[if_neg e]at ql;have f1:(x==y)=false:=by simp[e]
  have ju:v1=((B5 X Y i j:Nat):Int):=by rw[<-je,ql];omega
  rw[<-e7 (by rw[qA,ju,S3 X Y qg])]at qr;refine Ag (by kernel_rfl) ?_;simp only[go_sem,Aq,hx,hy];simp only[go_sem,f1,j5];exact Bd qr rfl
def Ec(l:List Int):List (List V):=l.map fun k=>[iV k]
def Vp(l:List Int):(Ec l).length=l.length:=by unfold Ec;rw[Ba]
def Ae2(l:List Int):∀ r∈Ec l,r.length=1:=fun r hr=>by obtain⟨x,-,rfl⟩:=Dq.1 hr;rfl
def Ans(l:List Int):∀ r∈Ec l,r.all V.rowB=true:=fun r hr=>by obtain⟨x,-,rfl⟩:=Dq.1 hr;rfl
def Al0{D:List Int}{n i:Nat}(h:D.length=i)(hi:i<n)(v:Int):(D++List.replicate (n - i) 0).set i v=(D++[v])++List.replicate (n - (i+1)) 0:=by
 rw[Ie _ _ (by omega),h,Gc,show n - i=(n - (i+1))+1 by omega,U2,List.set_cons_zero,D9];rfl
def Aud{D R:List Int}{i:Nat}(h:D.length=i)(u v:Int):((D++[u])++R).set i v=(D++[v])++R:=by
 rw[D9,Ie _ _ (by omega),h,Gc,D9];rfl
def Apb{D:List Int}{n:Nat}{e:Nat}(h:D.length=n):FR (.sl 0 0 0 n 1 true) [.row (Bl D) e 0 0] (.lst 0 (Ec D)):=by
 have:=Af5 (σ:=[.row (Bl D) e 0 0]) (i:=0) (g:=0) (m:=1) (e:=e) (xs:=Ec D) (by rw[Ajy];rfl) (by omega) (Ae2 D) (Ans D);rw[Vp,h]at this;exact this
set_option maxHeartbeats 4000000 in
def Axc(z1 z2:Bool)(t1 t2:Nat)(X Y:List (List UInt8))(hX:X.length<=4096)(hY:Y.length<=4096):Fn TT PT 16 [SL z1 t1 (X.map fun x=>[V.str x]),SL z2 t2 (Y.map fun x=>[V.str x])] (.lst 0 (Ec (Da 0 X Y))):=by
 refine Bn T16 rfl ?_;have qk:(X.map fun x=>[V.str x]).length=X.length:=Ba ..;have qf:(Y.map fun x=>[V.str x]).length=Y.length:=Ba ..;have q:=Asr z1 z2 t1 t2 X Y (by omega) (by omega);unfold Rq at q;have a1:(4096<(X.length:Int))=False:=eq_false (by omega);have a2:(4096<(Y.length:Int))=False:=eq_false (by omega);have b1:(0<=(X.length:Int))=True:=eq_true (by omega);have b2:((X.length:Int)<=(X.length:Int))=True:=eq_true (Sd _);have b3:(X.length*8<=140737488355328)=True:=eq_true (by omega);have c3:∀ n:Nat,(0<=n)=True:=fun n=>eq_true (Ay n)
 simp only[go_sem,qk,qf,a1,a2];refine Ad q (by simp only[go_sem]) ?_;simp only[go_sem,qk,b1,b2,b3,Sq,V5];refine Bv (α:=Nat × Nat × List Int) (fun a=>X.length - a.1) (fun a=>[(0,SL z1 t1 (X.map fun x=>[V.str x])),(1,SL z2 t2 (Y.map fun x=>[V.str x])),(5,.lst 0 ((Ix X Y).map fun r=>[V.lst 0 (r.map fun x=>[iV x])])),(6,.sl 0 0 0 X.length 1 true),(7,iV (a.2.1:Int)),(25,iV (X.length:Int)),(26,iV (a.1:Int))]) (fun a=>[.row (Bl (a.2.2++List.replicate (X.length - a.1) 0)) 3 0 0]) (fun a=>a.1<=X.length/\a.2.1<=Y.length/\a.2.2.length=a.1/\a.2.2++Da a.2.1 (X.drop a.1) (Y.drop a.2.1)=Da 0 X Y) ?_ (0,0,[]) ⟨Ay _,Ay _,rfl,by simp⟩;rintro⟨i,j,D⟩ ⟨hi,hj,hD,hA⟩ ih;simp only at hi hj hD hA ih;refine Bw (by delta lp16_1;exact rfl) ?_;rcases Br i X.length with qb | qb;rotate_left
 .obtain rfl:i=X.length:=by omega
  rw[Aco,Da,Cm]at hA;subst hA;rw[Gc,List.replicate_zero,Cm];simp only[go_sem,Ce qb];exact Apb hD
 obtain⟨x,hx,-,-⟩:=Cw qb;have g1:(0<=(i:Int))=True:=eq_true (by omega);have g2:((i:Int)<(X.length:Int))=True:=eq_true (by omega);have qS:(D++List.replicate (X.length - i) (0:Int)).length=X.length:=by rw[Aj,P4];omega
 have m1:(i+1<=(Bl (D++List.replicate (X.length - i) 0)).length)=True:=eq_true (by rw[Jo,qS];omega);obtain⟨nx,qv⟩:∃ nx:Int->List Int,∀ v,nx v=(D++[v])++List.replicate (X.length - (i+1)) 0:=⟨_,fun _=>rfl⟩;have e1:∀ v:Int,List.take i (Bl (D++List.replicate (X.length - i) 0))++iV v::List.drop (i+1) (Bl (D++List.replicate (X.length - i) 0))=Bl (nx v):=fun v=>by rw[S6 (by omega),Al0 hD qb,qv]
 have i1:IntKind.i64.wrap ((i:Int)+1)=((i+1:Nat):Int):=Bf (by omega);simp only[go_sem,Bp qb];refine Bv (α:=Nat) (fun k=>Y.length - k) (fun k=>[(0,SL z1 t1 (X.map fun x=>[V.str x])),(1,SL z2 t2 (Y.map fun x=>[V.str x])),(5,.lst 0 ((Ix X Y).map fun r=>[V.lst 0 (r.map fun x=>[iV x])])),(6,.sl 0 0 0 X.length 1 true),(7,iV (j:Int)),(8,iV (i:Int)),(9,iV (k:Int)),(25,iV (X.length:Int)),(26,iV (i:Int))]) (fun _=>[.row (Bl (D++List.replicate (X.length - i) 0)) 3 0 0]) (fun k=>j<=k/\k<=Y.length/\∀ k',j<=k'->k'<k->¬ Mf X Y i j k') ?_ j ⟨Ah _,hj,fun k' h1 h2=>by omega⟩;rintro k ⟨qt,hk,qe⟩ kh;refine Bw (by delta lp16_0;exact rfl) ?_;rcases Br k Y.length with qc | qc;rotate_left
 .obtain rfl:k=Y.length:=by omega
  rw[Alv qb qe]at hA;simp only[go_sem,Ce qc,qf,g1,g2,m1,c3,e1,i1];rw[qv];refine Bd (ih (i+1,j,D++[-1]) (by simp only;omega) ⟨qb,hj,by simp[hD],?_⟩) rfl;rw[D9];exact hA
 obtain⟨y,hy,-,-⟩:=Cw qc;have k1:IntKind.i64.wrap ((k:Int)+1)=((k+1:Nat):Int):=Bf (by omega);by_cases e:x=y;rotate_left
 .have f1:(x==y)=false:=by simp[e]
  simp only[go_sem,Bp qc,qf];refine Ag (by kernel_rfl) ?_;simp only[go_sem,Aq,hx,hy,f1];simp only[go_sem,k1];refine Bd (kh (k+1) (by omega) ⟨by omega,qc,fun k' h1 h2=>?_⟩) rfl;rcases Br k' k with h | h
  .exact qe k' h1 h
  .obtain rfl:k'=k:=by omega
   intro hh;have:=hh.1;rw[hx,hy]at this;exact e (J9 this)
 have f1:(x==y)=true:=by simp[e]
 have T1:=Zw (V3 X Y (i:=i+1) qb);have T0:=Zw (V3 X Y (i:=i) (Mm qb));have n1:=Abq (O0 X Y (i:=i+1) (k:=k+1) qc);have n0:=Abq (O0 X Y (i:=i) (k:=j) hj);have l1:=Aai X Y (i+1) (k+1);have f2:IntKind.i64.wrap (1+((B5 X Y (i+1) (k+1):Nat):Int))=((1+B5 X Y (i+1) (k+1):Nat):Int):=by rw[C7 (by omega)];rfl
 by_cases hh:1+B5 X Y (i+1) (k+1)=B5 X Y i j
 .have f3:(((1+B5 X Y (i+1) (k+1):Nat):Int)==((B5 X Y i j:Nat):Int))=true:=by rw[hh];simp
  have qp:Mf X Y i j k:=⟨by rw[hx,hy,e],hh⟩;rw[Anj qb qt qc qp qe]at hA;simp only[go_sem,Bp qc,qf];refine Ag (by kernel_rfl) ?_;simp only[go_sem,Aq,hx,hy,f1,i1,k1,T1,T0,n1,n0,f2,f3];simp only[go_sem,g1,g2,m1,c3,e1,k1,i1];rw[qv];refine Bd (ih (i+1,k+1,D++[(k:Int)]) (by simp only;omega) ⟨qb,qc,by simp[hD],?_⟩) rfl;rw[D9];exact hA
 .have f3:(((1+B5 X Y (i+1) (k+1):Nat):Int)==((B5 X Y i j:Nat):Int))=false:=by
   rw[beq_eq_false_iff_ne];omega
  simp only[go_sem,Bp qc,qf];refine Ag (by kernel_rfl) ?_;simp only[go_sem,Aq,hx,hy,f1,i1,k1,T1,T0,n1,n0,f2,f3];refine Bd (kh (k+1) (by omega) ⟨by omega,qc,fun k' h1 h2=>?_⟩) rfl;rcases Br k' k with h | h
  .exact qe k' h1 h
  .obtain rfl:k'=k:=by omega
   exact fun h=>hh h.2
set_option maxHeartbeats 4000000 in
def A07(z1 z2:Bool)(t1 t2:Nat)(X Y:List (List UInt8))(hX:X.length<=4096)(hY:Y.length<=4096):Fn TT PT 18 [SL z1 t1 (X.map fun x=>[V.str x]),SL z2 t2 (Y.map fun x=>[V.str x])] (.lst 0 (Ec (Da 0 X Y))):=by
 refine Bn T18 rfl ?_;have qk:(X.map fun x=>[V.str x]).length=X.length:=Ba ..;have qf:(Y.map fun x=>[V.str x]).length=Y.length:=Ba ..;have q:=Ass z1 z2 t1 t2 X Y (by omega) (by omega);unfold Rq at q;have b1:(0<=(X.length:Int))=True:=eq_true (by omega);have b2:((X.length:Int)<=(X.length:Int))=True:=eq_true (Sd _);have b3:(X.length*8<=140737488355328)=True:=eq_true (by omega);have c3:∀ n:Nat,(0<=n)=True:=fun n=>eq_true (Ay n)
 simp only[go_sem];refine Ad q (by simp only[go_sem]) ?_;simp only[go_sem,qk,b1,b2,b3,Sq,V5];refine Bv (α:=Nat × Nat × List Int) (fun a=>X.length - a.1) (fun a=>[(0,SL z1 t1 (X.map fun x=>[V.str x])),(1,SL z2 t2 (Y.map fun x=>[V.str x])),(5,.lst 0 ((Ix X Y).map fun r=>[V.lst 0 (r.map fun x=>[iV x])])),(6,.sl 0 0 0 X.length 1 true),(7,iV (a.2.1:Int)),(17,iV (X.length:Int)),(18,iV (a.1:Int))]) (fun a=>[.row (Bl (a.2.2++List.replicate (X.length - a.1) 0)) 3 0 0]) (fun a=>a.1<=X.length/\a.2.1<=Y.length/\a.2.2.length=a.1/\a.2.2++Da a.2.1 (X.drop a.1) (Y.drop a.2.1)=Da 0 X Y) ?_ (0,0,[]) ⟨Ay _,Ay _,rfl,by simp⟩;rintro⟨i,j,D⟩ ⟨hi,hj,hD,hA⟩ ih;simp only at hi hj hD hA ih;refine Bw (by delta lp18_1;exact rfl) ?_;rcases Br i X.length with qb | qb;rotate_left
 .obtain rfl:i=X.length:=by omega
  rw[Aco,Da,Cm]at hA;subst hA;rw[Gc,List.replicate_zero,Cm];simp only[go_sem,Ce qb];exact Apb hD
 obtain⟨x,hx,-,-⟩:=Cw qb;have g1:(0<=(i:Int))=True:=eq_true (by omega);have g2:((i:Int)<(X.length:Int))=True:=eq_true (by omega);have qS:(D++List.replicate (X.length - i) (0:Int)).length=X.length:=by rw[Aj,P4];omega
 have jm:∀ u:Int,((D++[u])++List.replicate (X.length - (i+1)) (0:Int)).length=X.length:=fun u=>by rw[Aj,Aj,P4,Ht];omega
 have m1:(i+1<=(Bl (D++List.replicate (X.length - i) 0)).length)=True:=eq_true (by rw[Jo,qS];omega);have e1:List.take i (Bl (D++List.replicate (X.length - i) 0))++iV (-1)::List.drop (i+1) (Bl (D++List.replicate (X.length - i) 0))=Bl ((D++[-1])++List.replicate (X.length - (i+1)) 0):=by rw[S6 (by omega),Al0 hD qb]
 obtain⟨L1,qK⟩:∃ L1,L1=(D++[-1])++List.replicate (X.length - (i+1)) (0:Int):=⟨_,rfl⟩;have qR:L1.length=X.length:=by rw[qK];exact jm _
 have m2:(i+1<=(Bl L1).length)=True:=eq_true (by rw[Jo,qR];omega);obtain⟨nx,qv⟩:∃ nx:Int->List Int,∀ v,nx v=(D++[v])++List.replicate (X.length - (i+1)) 0:=⟨_,fun _=>rfl⟩;have e2:∀ v:Int,List.take i (Bl L1)++iV v::List.drop (i+1) (Bl L1)=Bl (nx v):=fun v=>by rw[S6 (by omega),qK,Aud hD,qv]
 rw[<-qK]at e1;have i1:IntKind.i64.wrap ((i:Int)+1)=((i+1:Nat):Int):=Bf (by omega);simp only[go_sem,Bp qb,g1,g2,m1,c3,e1];refine Bv (α:=Nat) (fun k=>Y.length - k) (fun k=>[(0,SL z1 t1 (X.map fun x=>[V.str x])),(1,SL z2 t2 (Y.map fun x=>[V.str x])),(5,.lst 0 ((Ix X Y).map fun r=>[V.lst 0 (r.map fun x=>[iV x])])),(6,.sl 0 0 0 X.length 1 true),(7,iV (j:Int)),(8,iV (i:Int)),(9,iV (k:Int)),(17,iV (X.length:Int)),(18,iV (i:Int))]) (fun _=>[.row (Bl L1) 3 0 0]) (fun k=>j<=k/\k<=Y.length/\∀ k',j<=k'->k'<k->¬ Mf X Y i j k') ?_ j ⟨Ah _,hj,fun k' h1 h2=>by omega⟩;rintro k ⟨qt,hk,qe⟩ kh;refine Bw (by delta lp18_0;exact rfl) ?_;rcases Br k Y.length with qc | qc;rotate_left
 .obtain rfl:k=Y.length:=by omega
  rw[Alv qb qe]at hA;simp only[go_sem,Ce qc,qf,i1];rw[qK];refine Bd (ih (i+1,j,D++[-1]) (by simp only;omega) ⟨qb,hj,by simp[hD],?_⟩) rfl;rw[D9];exact hA
 obtain⟨y,hy,-,-⟩:=Cw qc;have k1:IntKind.i64.wrap ((k:Int)+1)=((k+1:Nat):Int):=Bf (by omega);by_cases e:x=y;rotate_left
 .have f1:(x==y)=false:=by simp[e]
  simp only[go_sem,Bp qc,qf];refine Ag (by kernel_rfl) ?_;simp only[go_sem,Aq,hx,hy,f1];simp only[go_sem,k1];refine Bd (kh (k+1) (by omega) ⟨by omega,qc,fun k' h1 h2=>?_⟩) rfl;rcases Br k' k with h | h
  .exact qe k' h1 h
  .obtain rfl:k'=k:=by omega
   intro hh;have:=hh.1;rw[hx,hy]at this;exact e (J9 this)
 have f1:(x==y)=true:=by simp[e]
 have T1:=Zw (V3 X Y (i:=i+1) qb);have T0:=Zw (V3 X Y (i:=i) (Mm qb));have n1:=Abq (O0 X Y (i:=i+1) (k:=k+1) qc);have n0:=Abq (O0 X Y (i:=i) (k:=j) hj);have l1:=Aai X Y (i+1) (k+1);have f2:IntKind.i64.wrap (1+((B5 X Y (i+1) (k+1):Nat):Int))=((1+B5 X Y (i+1) (k+1):Nat):Int):=by rw[C7 (by omega)];rfl
 by_cases hh:1+B5 X Y (i+1) (k+1)=B5 X Y i j
 .have f3:(((1+B5 X Y (i+1) (k+1):Nat):Int)==((B5 X Y i j:Nat):Int))=true:=by rw[hh];simp
  have qp:Mf X Y i j k:=⟨by rw[hx,hy,e],hh⟩;rw[Anj qb qt qc qp qe]at hA;simp only[go_sem,Bp qc,qf];refine Ag (by kernel_rfl) ?_;simp only[go_sem,Aq,hx,hy,f1,i1,k1,T1,T0,n1,n0,f2,f3];simp only[go_sem,g1,g2,m2,c3,e2,k1,i1];rw[qv];refine Bd (ih (i+1,k+1,D++[(k:Int)]) (by simp only;omega) ⟨qb,qc,by simp[hD],?_⟩) rfl;rw[D9];exact hA
 .have f3:(((1+B5 X Y (i+1) (k+1):Nat):Int)==((B5 X Y i j:Nat):Int))=false:=by
   rw[beq_eq_false_iff_ne];omega
  simp only[go_sem,Bp qc,qf];refine Ag (by kernel_rfl) ?_;simp only[go_sem,Aq,hx,hy,f1,i1,k1,T1,T0,n1,n0,f2,f3];refine Bd (kh (k+1) (by omega) ⟨by omega,qc,fun k' h1 h2=>?_⟩) rfl;rcases Br k' k with h | h
  .exact qe k' h1 h
  .obtain rfl:k'=k:=by omega
   exact fun h=>hh h.2
def A08{keep:List Nat}{c:AC}{id:Nat}{k:List It}{e:Env}{σ:St}{Q:Env->St->Prop}(P:Env->St->Prop)(h1:∀ k',(∀ e σ,P e σ->W TT PT k' e σ Q)->W TT PT (.l keep c::.b id::k') e σ Q)(h2:∀ e σ,P e σ->W TT PT k e σ Q):W TT PT (.l keep c::.b id::k) e σ Q:=h1 k h2
structure PY (p:Gp):Prop where
 px:PX p
 sz:∀ t∈p.thrs,Sp.szs t.body<=4096
def V6{p:Gp}(h:PX p):(Gr (Gn p)).length<=1000000000000:=by
 have h1:(Gr (Gn p)).length=(Abn p).length:=Y8 p.thrs;have h2:(Abn p).length=_:=Atz p.thrs;have h3:=A0u h.sz;have h4:p.thrs.length*10000<=100000000*10000:=Fo _ h.few;omega
def Aj0{α β:Type}[DecidableEq α][DecidableEq β](P Q:List (β × List α))(i:Nat):(G6 (P.take i) Q).length<=(Gr P).length:=by
 rw[Ade];exact V4 P i
def Y9{p:Gp}{i:Nat}{x:Tp}(h:p.thrs[i]?=some x):(Gn p)[i]?=some (x.nm,Sp.hdss x.body):=by
 unfold Gn;rw[Aq,h];rfl
def Yy(p:Gp):(Gn p).length=p.thrs.length:=by unfold Gn;rw[Ba]
def Ant{α:Type}[DecidableEq α]{X Y:List α}{m:Nat}{v:Int}(h:(Da 0 X Y)[m]?=some v): -1<=v/\v<Y.length:=by
 rcases Aed X 0 Y m v h with rfl | ⟨k,rfl,h1,-⟩
 .omega
 .omega
def Aj1{b:Nat}{A:List Int}{m:Nat}{v:Int}(h:A[m]?=some v):H8 b (A.take (m+1))=H8 b (A.take m)++[if 0<=v then v+b else v]:=by
 unfold H8;rw[Oo,h,Ach,Ef,Yd]
def Aue(a b:List Int):Ec (a++b)=Ec a++Ec b:=by unfold Ec;rw[Ef]
structure MQ (p q:Gp) (s:St) (u:V) (L:List Int):Prop where
 gw:GW s 1 3 2 u (Ec L)
 s0:s[0]?=some (.row [SL p.dz p.dt (p.decls.map Dp.row),SL p.tz p.tt (p.thrs.map Tp.row)] 28 0 0)
 s1:s[1]?=some (.row [SL q.dz q.dt (q.decls.map Dp.row),SL q.tz q.tt (q.thrs.map Tp.row)] 28 0 0)
def Afu{p q:Gp}{s:St}{u:V}{L:List Int}(h:MQ p q s u L):2<=s.length:=(Ap.1 h.s1).1
def Ae3{p q:Gp}{s:St}{u:V}{L:List Int}(h:MQ p q s u L)(l:St):MQ p q (s++l) u L:=⟨O5 h.gw,Bx h.s0,Bx h.s1⟩
def Afv{p q:Gp}{s:St}{u:V}{L:List Int}(h:MQ p q s u L)(v:Int)(hb:L.length<=2000000000000):∃ u' s',D5 8 (1,3) u (.lst 1 [[iV v]]) s=some (u',s')/\MQ p q s' u' (L++[v])/\u'.cellB=true:=by
 have hl:=Afu h;obtain⟨u',s',ha,g',l',kp,-,-⟩:=Q3 (bytes:=8) (y:=.lst 1 [[iV v]]) (ys:=[[iV v]]) h.gw (by omega) rfl (by omega) (Ae2 _) (by simp) (by simp[V.rowB]) (by rw[Vp];simp only[Ht];omega);refine⟨u',s',ha,⟨?_,?_,?_⟩,Dk g'⟩
 .rw[Aue];exact g'
 .rw[kp 0 (by omega) fun e=>by have:=(Du h.gw 0 e).1;omega];exact h.s0
 .rw[kp 1 (by omega) fun e=>by have:=(Du h.gw 1 e).1;omega];exact h.s1
def Apc{p q:Gp}{s:St}{u:V}{L:List Int}(h:MQ p q s u L):FR u s (SL true 0 (Ec L)):=App h.gw (by omega) (Ae2 L) (Ans L)
set_option maxHeartbeats 4000000 in
def Vq{p q:Gp}(hp:PY p)(hq:PY q):Fn TT PT 7 [.agg p.row,.agg q.row] (SL true 0 (Ec (Ju p q))):=by
 have ll:=V6 hp.px;have lq:=V6 hq.px;have jo:=hp.px.few;have jp:=hq.px.few;have qy:=Ajv hp.px;have qz:=Ajv hq.px;have ja:=Rj p;have jb:=Rj q;have qG:=F1 p;have qH:=F1 q;have qY:(p.thrs.map C2).length=p.thrs.length:=Ba ..;have qZ:(q.thrs.map Tp.row).length=q.thrs.length:=Ba ..;rw[qG]at qy ja ⊢;rw[qH]at qz jb ⊢;refine Bn T7 rfl ?_;have m0:MQ p q [.row [SL p.dz p.dt (p.decls.map Dp.row),SL p.tz p.tt (p.thrs.map Tp.row)] 28 0 0,.row [SL q.dz q.dt (q.decls.map Dp.row),SL q.tz q.tt (q.thrs.map Tp.row)] 28 0 0] .nils []:=⟨F9,rfl,rfl⟩;simp only[go_sem];refine Ag (by kernel_rfl) ?_;simp only[go_sem];refine A1 qy (by simp only[go_sem]) ?_;simp only[go_sem];refine A1 qz (by simp only[go_sem]) ?_;simp only[go_sem,qY];unfold Ju;generalize hP:Gn p=P at *;generalize hQ:Gn q=Q at *;refine Bv (α:=Nat × St × V) (fun a=>p.thrs.length - a.1) (fun a=>[(2,.ptr 0 0 0),(3,.ptr 1 0 0),(6,.lst 0 (q.thrs.map C2)),(7,a.2.2),(20,.lst 0 (p.thrs.map C2)),(21,iV (p.thrs.length:Int)),(22,iV (a.1:Int))]) (fun a=>a.2.1) (fun a=>a.1<=p.thrs.length/\MQ p q a.2.1 a.2.2 (G6 (P.take a.1) Q)) ?_ (0,_,.nils) ⟨Ay _,m0⟩;clear m0;rintro⟨i,s,u⟩ ⟨hi,hm⟩ ih;simp only at hi hm ih;refine Bw (by delta lp7_2;exact rfl) ?_;rcases Br i p.thrs.length with qb | qb;rotate_left
 .have qX:i=p.thrs.length:=by omega
  have qT:P.length=p.thrs.length:=by rw[<-hP,Yy]
  rw[qX,<-qT,Cz]at hm;simp only[go_sem,Ce qb];exact Apc hm
 obtain⟨x,hx,-,jf⟩:=Cw qb;have qw:=Pp x;have qU:P[i]?=some (x.nm,Sp.hdss x.body):=by rw[<-hP];exact Y9 hx
 have qk:((Sp.hdss x.body).map fun x=>[V.str x]).length=(Sp.hdss x.body).length:=Ba ..;have jg:(Sp.hdss x.body).length<=4096:=by rw[Ik];exact hp.sz x jf
 have qM:C2 x=[SL true 0 ((Sp.hdss x.body).map fun x=>[V.str x])]:=rfl;have qN:=Aic Q qU;generalize hX:Sp.hdss x.body=X at *;have i1:IntKind.i64.wrap ((i:Int)+1)=((i+1:Nat):Int):=Bf (by omega);have qB:=Dk hm.gw;have qE:=hm.s0;have qi:=hm.s1;simp only[go_sem,Bp qb,Aq,hx,qM,qi,qZ];refine A08 (fun e s'=>∃ (k:Nat) (v:V) (b:Nat) (Y:List (List UInt8)),e=[(2,.ptr 0 0 0),(3,.ptr 1 0 0),(6,.lst 0 (q.thrs.map C2)),(7,u),(8,iV (i:Int)),(9,SL true 0 (X.map fun x=>[V.str x])),(10,iV (b:Int)),(11,v),(20,.lst 0 (p.thrs.map C2)),(21,iV (p.thrs.length:Int)),(22,iV (i:Int)),(28,SL q.tz q.tt (q.thrs.map Tp.row)),(29,iV (q.thrs.length:Int)),(30,iV (k:Int))]/\v=SL true 0 (Y.map fun x=>[V.str x])/\Y.length<=4096/\b<=(Gr Q).length/\Jg (x.nm,X) Q=H8 b (Da 0 X Y)/\MQ p q s' u (G6 (P.take i) Q)) ?_ ?_
 .intro k' qc;refine Bv (α:=Nat × St) (fun a=>q.thrs.length - a.1) (fun a=>[(2,.ptr 0 0 0),(3,.ptr 1 0 0),(6,.lst 0 (q.thrs.map C2)),(7,u),(8,iV (i:Int)),(9,SL true 0 (X.map fun x=>[V.str x])),(10,iV ((E9 Q a.1:Nat):Int)),(11,.nils),(20,.lst 0 (p.thrs.map C2)),(21,iV (p.thrs.length:Int)),(22,iV (i:Int)),(28,SL q.tz q.tt (q.thrs.map Tp.row)),(29,iV (q.thrs.length:Int)),(30,iV (a.1:Int))]) (fun a=>a.2) (fun a=>a.1<=q.thrs.length/\Lm x.nm Q a.1/\MQ p q a.2 u (G6 (P.take i) Q)) ?_ (0,s) ⟨Ay _,Alw _ _,hm⟩;clear hm qE qi;clear s;rintro⟨k,s⟩ ⟨hk,qe,hm⟩ kh;simp only at hk qe hm kh;refine Bw (by delta lp7_0;exact rfl) ?_;rcases Br k q.thrs.length with h' | h';rotate_left
  .have qL:k=Q.length:=by rw[<-hQ,Yy];omega
   rw[qL]at qe;have:=(Ajx (s:=X) qe).2;simp only[go_sem,Ce h'];exact qc _ _ ⟨k,.nils,E9 Q k,[],rfl,by simp[SL],by simp,V4 Q k,by rw[qL];exact this,hm⟩
  obtain⟨y,hy,-,qJ⟩:=Cw h';have qq:=Pp y;have qo:Q[k]?=some (y.nm,Sp.hdss y.body):=by rw[<-hQ];exact Y9 hy
  have qf:((Sp.hdss y.body).map fun x=>[V.str x]).length=(Sp.hdss y.body).length:=Ba ..;have qO:(Sp.hdss y.body).length<=4096:=by rw[Ik];exact hq.sz y qJ
  have qh:C2 y=[SL true 0 ((Sp.hdss y.body).map fun x=>[V.str x])]:=rfl;have qu:=Adg qo;have jj:=V4 Q k;simp only at qu;generalize hY:Sp.hdss y.body=Y at *;have qC:=Afu hm;have k1:IntKind.i64.wrap ((k:Int)+1)=((k+1:Nat):Int):=Bf (by omega);have w1:IntKind.i64.wrap (((E9 Q k:Nat):Int)+(Y.length:Int))=((E9 Q (k+1):Nat):Int):=by rw[qu,C7 (by omega)];rfl
  have qd:=Ae3 hm [.row [.str y.nm,iV y.line,SL y.lz y.lt (y.locals.map fun s=>[V.str s]),SL y.bz y.bt (y.body.map Sp.row)] 50 0 0];obtain⟨s',e'⟩:∃ s':St,s'=s++[.row [.str y.nm,iV y.line,SL y.lz y.lt (y.locals.map fun s=>[V.str s]),SL y.bz y.bt (y.body.map Sp.row)] 50 0 0]:=⟨_,rfl⟩;have qs:s'[s.length]?=some (.row [.str y.nm,iV y.line,SL y.lz y.lt (y.locals.map fun s=>[V.str s]),SL y.bz y.bt (y.body.map Sp.row)] 50 0 0):=by rw[e'];simp
  rw[<-e']at qd;have jl:=qd.s0;by_cases e:y.nm=x.nm
  .have f1:(y.nm==x.nm)=true:=by simp[e]
   simp only[go_sem,Bp h',Aq,hy,qq];rw[<-e'];refine Ag (by kernel_rfl) ?_;simp only[go_sem,qs,jl,Aq,hx,qw];simp only[go_sem,f1,Aq,hy,qh];exact qc _ _ ⟨k,_,E9 Q k,Y,rfl,rfl,qO,jj,Aly qe qo e,qd⟩
  .have f1:(y.nm==x.nm)=false:=by simp[e]
   simp only[go_sem,Bp h',Aq,hy,qq];rw[<-e'];refine Ag (by kernel_rfl) ?_;simp only[go_sem,qs,jl,Aq,hx,qw];simp only[go_sem,f1,Aq,hy,qh,qf,w1,k1];exact Bd (kh (k+1,s') (by simp only;omega) ⟨h',Alx qe qo e,qd⟩) rfl
 clear hm qE qi;clear s;rintro _ s ⟨k,v,b,Y,rfl,rfl,qf,hb,qj,hm⟩;have qa:=Axc true true 0 0 X Y jg qf;have qP:(Da 0 X Y).length=X.length:=Wn X 0 Y;generalize hA:Da 0 X Y=A at *;have qQ:(Ec A).length=X.length:=by rw[Vp,qP]
 simp only[go_sem];refine Ad qa (by simp only[go_sem]) ?_;simp only[go_sem,qQ];refine Bv (α:=Nat × St × V) (fun a=>X.length - a.1) (fun a=>[(2,.ptr 0 0 0),(3,.ptr 1 0 0),(6,.lst 0 (q.thrs.map C2)),(7,a.2.2),(10,iV (b:Int)),(20,.lst 0 (p.thrs.map C2)),(21,iV (p.thrs.length:Int)),(22,iV (i:Int)),(58,.lst 0 (Ec A)),(59,iV (X.length:Int)),(60,iV (a.1:Int))]) (fun a=>a.2.1) (fun a=>a.1<=X.length/\MQ p q a.2.1 a.2.2 (G6 (P.take i) Q++H8 b (A.take a.1))) ?_ (0,s,u) ⟨Ay _,by simpa[H8] using hm⟩;clear hm qB;clear s u;rintro⟨m,s,u⟩ ⟨qF,hm⟩ mh;simp only at qF hm mh;refine Bw (by delta lp7_1;exact rfl) ?_;rcases Br m X.length with h' | h';rotate_left
 .have qD:m=A.length:=by omega
  rw[qD,Cz,<-qj,<-qN]at hm;simp only[go_sem,Ce h',i1];exact Bd (ih (i+1,s,u) (by simp only;omega) ⟨qb,hm⟩) rfl
 obtain⟨v,hv⟩:∃ v,A[m]?=some v:=⟨_,A2 (by omega)⟩;have jv:=Ant (X:=X) (Y:=Y) (m:=m) (by rw[hA];exact hv);have qI:(Ec A)[m]?=some [iV v]:=by unfold Ec;rw[Aq,hv];rfl
 have jc:=Aj1 (b:=b) hv;have m1:IntKind.i64.wrap ((m:Int)+1)=((m+1:Nat):Int):=Bf (by omega);have js:=Aj0 P Q i
 obtain⟨w,hw⟩:∃ w:Int,w=if 0<=v then v+b else v:=⟨_,rfl⟩
 obtain⟨u',s',ha,qd,ji⟩:=Afv hm w (by rw[Aj];unfold H8;rw[Ba,Hw];omega);rw[D9,hw,<-jc]at qd;by_cases h0:0<=v
 .have f1:decide (0<=v)=true:=by simp[h0]
  have f2:IntKind.i64.wrap (v+(b:Int))=w:=by rw[hw,if_pos h0,C7 (by omega)]
  simp only[go_sem,Bp h',qI,f1,f2,ha,m1];exact Bd (mh (m+1,s',u') (by simp only;omega) ⟨h',qd⟩) rfl
 .have f1:decide (0<=v)=false:=by simp[h0]
  have f2:w=v:=by rw[hw,if_neg h0]
  rw[f2]at ha;simp only[go_sem,Bp h',qI,f1,ha,m1];exact Bd (mh (m+1,s',u') (by simp only;omega) ⟨h',qd⟩) rfl
def Auf{q:Gp}{j:Nat}{r:List UInt8 × List (List UInt8)}(h:(Gn q)[j]?=some r):∃ y,q.thrs[j]?=some y/\r=(y.nm,Sp.hdss y.body):=by
 unfold Gn at h;rw[Aq]at h;obtain⟨y,hy,rfl⟩:=Bm.1 h;exact⟨y,hy,rfl⟩
set_option maxHeartbeats 8000000 in
def Za{p q:Gp}(hp:PY p)(hq:PY q):Fn TT PT 8 [.agg p.row,.agg q.row] (SL true 0 (Ec (Ju p q))):=by
 have ll:=V6 hp.px;have lq:=V6 hq.px;have jo:=hp.px.few;have jp:=hq.px.few;obtain⟨zp,qy⟩:=Aju hp.px;obtain⟨zq,qz⟩:=Aju hq.px;have ja:=Rj p;have jb:=Rj q;have qG:=F1 p;have qH:=F1 q;have qY:(p.thrs.map Tp.row).length=p.thrs.length:=Ba ..;have qZ:(q.thrs.map Tp.row).length=q.thrs.length:=Ba ..;rw[qG]at qy ja ⊢;rw[qH]at qz jb ⊢;refine Bn T8 rfl ?_;have m0:MQ p q [.row [SL p.dz p.dt (p.decls.map Dp.row),SL p.tz p.tt (p.thrs.map Tp.row)] 28 0 0,.row [SL q.dz q.dt (q.decls.map Dp.row),SL q.tz q.tt (q.thrs.map Tp.row)] 28 0 0] .nils []:=⟨F9,rfl,rfl⟩;simp only[go_sem];refine Ag (by kernel_rfl) ?_;simp only[go_sem];refine A1 qy (by simp only[go_sem]) ?_;simp only[go_sem];refine A1 qz (by simp only[go_sem]) ?_;simp only[go_sem,qY];unfold Ju;generalize hP:Gn p=P at *;generalize hQ:Gn q=Q at *;refine Bv (α:=Nat × St × V) (fun a=>p.thrs.length - a.1) (fun a=>[(3,.ptr 1 0 0),(5,SL zp 0 (p.thrs.map C2)),(6,SL zq 0 (q.thrs.map C2)),(7,a.2.2),(21,SL p.tz p.tt (p.thrs.map Tp.row)),(22,iV (p.thrs.length:Int)),(23,iV (a.1:Int))]) (fun a=>a.2.1) (fun a=>a.1<=p.thrs.length/\MQ p q a.2.1 a.2.2 (G6 (P.take a.1) Q)) ?_ (0,_,.nils) ⟨Ay _,m0⟩;clear m0;rintro⟨i,s,u⟩ ⟨hi,hm⟩ ih;simp only at hi hm ih;refine Bw (by delta lp8_3;exact rfl) ?_;rcases Br i p.thrs.length with qb | qb;rotate_left
 .have qX:i=p.thrs.length:=by omega
  have qT:P.length=p.thrs.length:=by rw[<-hP,Yy]
  rw[qX,<-qT,Cz]at hm;simp only[go_sem,Ce qb];exact Apc hm
 obtain⟨x,hx,-,jf⟩:=Cw qb;have qw:=Pp x;have qU:P[i]?=some (x.nm,Sp.hdss x.body):=by rw[<-hP];exact Y9 hx
 have qk:((Sp.hdss x.body).map fun x=>[V.str x]).length=(Sp.hdss x.body).length:=Ba ..;have jg:(Sp.hdss x.body).length<=4096:=by rw[Ik];exact hp.sz x jf
 have qM:C2 x=[SL true 0 ((Sp.hdss x.body).map fun x=>[V.str x])]:=rfl;have qN:=Aic Q qU;generalize hX:Sp.hdss x.body=X at *;have i1:IntKind.i64.wrap ((i:Int)+1)=((i+1:Nat):Int):=Bf (by omega);have qC:=Afu hm;have qd:=Ae3 hm [.row [.str x.nm,iV x.line,SL x.lz x.lt (x.locals.map fun s=>[V.str s]),SL x.bz x.bt (x.body.map Sp.row)] 50 0 0];obtain⟨s',e'⟩:∃ s':St,s'=s++[.row [.str x.nm,iV x.line,SL x.lz x.lt (x.locals.map fun s=>[V.str s]),SL x.bz x.bt (x.body.map Sp.row)] 50 0 0]:=⟨_,rfl⟩;have k9:s'[s.length]?=some (.row [.str x.nm,iV x.line,SL x.lz x.lt (x.locals.map fun s=>[V.str s]),SL x.bz x.bt (x.body.map Sp.row)] 50 0 0):=by rw[e'];simp
 rw[<-e']at qd;have qi:(s++([.row [.str x.nm,iV x.line,SL x.lz x.lt (x.locals.map fun s=>[V.str s]),SL x.bz x.bt (x.body.map Sp.row)] 50 0 0]:St))[1]?=some (.row [SL q.dz q.dt (q.decls.map Dp.row),SL q.tz q.tt (q.thrs.map Tp.row)] 28 0 0):=by rw[<-e'];exact qd.s1
 simp only[go_sem,Bp qb,Aq,hx,qw,qi,qZ];rw[<-e'];clear qi hm e';generalize s.length=n9 at *;clear qC;clear s;refine Bv (α:=Nat × St × Int × Nat) (fun a=>q.thrs.length - a.1) (fun a=>[(3,.ptr 1 0 0),(5,SL zp 0 (p.thrs.map C2)),(6,SL zq 0 (q.thrs.map C2)),(7,u),(8,iV (i:Int)),(9,.ptr n9 0 0),(10,iV (a.2.2.2:Int)),(11,iV a.2.2.1),(21,SL p.tz p.tt (p.thrs.map Tp.row)),(22,iV (p.thrs.length:Int)),(23,iV (i:Int)),(29,SL q.tz q.tt (q.thrs.map Tp.row)),(30,iV (q.thrs.length:Int)),(31,iV (a.1:Int))]) (fun a=>a.2.1) (fun a=>a.1<=q.thrs.length/\FoundR x.nm Q a.1 a.2.2.1 a.2.2.2/\MQ p q a.2.1 u (G6 (P.take i) Q)/\a.2.1[n9]?=some (.row [.str x.nm,iV x.line,SL x.lz x.lt (x.locals.map fun s=>[V.str s]),SL x.bz x.bt (x.body.map Sp.row)] 50 0 0)) ?_ (0,s',-1,0) ⟨Ay _,Asg _ _,qd,k9⟩;clear qd k9;clear s';rintro⟨k,s,f,b⟩ ⟨hk,hf,hm,k9⟩ kh;simp only at hk hf hm k9 kh;refine Bw (by delta lp8_0;exact rfl) ?_;rcases Br k q.thrs.length with h' | h'
 .obtain⟨y,hy,-,qJ⟩:=Cw h';have qq:=Pp y;have qo:Q[k]?=some (y.nm,Sp.hdss y.body):=by rw[<-hQ];exact Y9 hy
  have qf:((Sp.hdss y.body).map fun x=>[V.str x]).length=(Sp.hdss y.body).length:=Ba ..;have qO:(Sp.hdss y.body).length<=4096:=by rw[Ik];exact hq.sz y qJ
  have qh:C2 y=[SL true 0 ((Sp.hdss y.body).map fun x=>[V.str x])]:=rfl;have jj:=V4 Q k;generalize hY:Sp.hdss y.body=Y at *;have k1:IntKind.i64.wrap ((k:Int)+1)=((k+1:Nat):Int):=Bf (by omega);have qd:=Ae3 hm [.row [.str y.nm,iV y.line,SL y.lz y.lt (y.locals.map fun s=>[V.str s]),SL y.bz y.bt (y.body.map Sp.row)] 50 0 0];obtain⟨s',e'⟩:∃ s':St,s'=s++[.row [.str y.nm,iV y.line,SL y.lz y.lt (y.locals.map fun s=>[V.str s]),SL y.bz y.bt (y.body.map Sp.row)] 50 0 0]:=⟨_,rfl⟩;have qs:(s++([.row [.str y.nm,iV y.line,SL y.lz y.lt (y.locals.map fun s=>[V.str s]),SL y.bz y.bt (y.body.map Sp.row)] 50 0 0]:St))[s.length]?=some (.row [.str y.nm,iV y.line,SL y.lz y.lt (y.locals.map fun s=>[V.str s]),SL y.bz y.bt (y.body.map Sp.row)] 50 0 0):=by simp
  have qn:(s++([.row [.str y.nm,iV y.line,SL y.lz y.lt (y.locals.map fun s=>[V.str s]),SL y.bz y.bt (y.body.map Sp.row)] 50 0 0]:St))[n9]?=some (.row [.str x.nm,iV x.line,SL x.lz x.lt (x.locals.map fun s=>[V.str s]),SL x.bz x.bt (x.body.map Sp.row)] 50 0 0):=Bx k9
  cases hf with
  | no qe=>
   have qu:=Adg qo;simp only at qu;have w1:IntKind.i64.wrap (((E9 Q k:Nat):Int)+(Y.length:Int))=((E9 Q (k+1):Nat):Int):=by rw[qu,C7 (by omega)];rfl
   by_cases e:y.nm=x.nm
   .have f1:(x.nm==y.nm)=true:=by simp[e]
    have f2:((k:Int)<0)=False:=eq_false (by omega);simp only[go_sem,Bp h',Aq,hy,qq,qs,qn,f1,f2,k1];exact Bd (kh (k+1,_,(k:Int),E9 Q k) (by simp only;omega) ⟨h',At3 qe qo e,qd,qn⟩) rfl
   .have f1:(x.nm==y.nm)=false:=by simp;exact fun h=>e h.symm
    simp only[go_sem,Bp h',Aq,hy,qq,qs,qn,f1,qh,qf,w1,k1];exact Bd (kh (k+1,_,-1,E9 Q (k+1)) (by simp only;omega) ⟨h',by rw[qu];exact Asi qe qo e,qd,qn⟩) rfl
  | @yes j r qt qe hr hrn=>
   have f2:((j:Int)<0)=False:=eq_false (by omega);have hF:=Ash (.yes qt qe hr hrn);by_cases e:y.nm=x.nm
   .have f1:(x.nm==y.nm)=true:=by simp[e]
    simp only[go_sem,Bp h',Aq,hy,qq,qs,qn,f1,f2,k1];exact Bd (kh (k+1,_,(j:Int),E9 Q j) (by simp only;omega) ⟨h',hF,qd,qn⟩) rfl
   .have f1:(x.nm==y.nm)=false:=by simp;exact fun h=>e h.symm
    simp only[go_sem,Bp h',Aq,hy,qq,qs,qn,f1,f2,k1];exact Bd (kh (k+1,_,(j:Int),E9 Q j) (by simp only;omega) ⟨h',hF,qd,qn⟩) rfl
 have qL:k=Q.length:=by rw[<-hQ,Yy];omega
 have js:=Aj0 P Q i;clear kh k9
 cases hf with
 | no qe=>
  rw[qL]at qe;have qj:=(Ajx (s:=X) qe).1;simp only[go_sem,Ce h',Aq,hx,qM,qk];refine Bv (α:=Nat × St × V) (fun a=>X.length - a.1) (fun a=>[(3,.ptr 1 0 0),(5,SL zp 0 (p.thrs.map C2)),(6,SL zq 0 (q.thrs.map C2)),(7,a.2.2),(21,SL p.tz p.tt (p.thrs.map Tp.row)),(22,iV (p.thrs.length:Int)),(23,iV (i:Int)),(62,iV (X.length:Int)),(63,iV (a.1:Int))]) (fun a=>a.2.1) (fun a=>a.1<=X.length/\MQ p q a.2.1 a.2.2 (G6 (P.take i) Q++List.replicate a.1 (-1))) ?_ (0,s,u) ⟨Ay _,by simpa using hm⟩;clear hm;clear s u;rintro⟨m,s,u⟩ ⟨qF,hm⟩ mh;simp only at qF hm mh;refine Bw (by delta lp8_1;exact rfl) ?_;rcases Br m X.length with h2 | h2
  .obtain⟨u',s',ha,qd,ji⟩:=Afv hm (-1) (by rw[Aj,P4];omega);rw[D9,<-List.replicate_succ']at qd;have m1:IntKind.i64.wrap ((m:Int)+1)=((m+1:Nat):Int):=Bf (by omega);simp only[go_sem,Bp h2,ha,m1];exact Bd (mh (m+1,s',u') (by simp only;omega) ⟨h2,qd⟩) rfl
  .have qD:m=X.length:=by omega
   rw[qD,<-qj,<-qN]at hm;simp only[go_sem,Ce h2,i1];exact Bd (ih (i+1,s,u) (by simp only;omega) ⟨qb,hm⟩) rfl
 | @yes j r qt qe hr hrn=>
  have jk:=hr;rw[<-hQ]at jk;obtain⟨y,hy,rfl⟩:=Auf jk;have qJ:=Hu hy;have qO:(Sp.hdss y.body).length<=4096:=by rw[Ik];exact hq.sz y qJ
  have qh:C2 y=[SL true 0 ((Sp.hdss y.body).map fun x=>[V.str x])]:=rfl;have qj:=Aly (s:=X) qe hr hrn;have hb:=V4 Q j;simp only at qj;generalize hY:Sp.hdss y.body=Y at *;generalize E9 Q j=b at *;have qa:=A07 true true 0 0 X Y jg qO;have qP:(Da 0 X Y).length=X.length:=Wn X 0 Y;generalize hA:Da 0 X Y=A at *;have qQ:(Ec A).length=X.length:=by rw[Vp,qP]
  have f2:((j:Int)<0)=False:=eq_false (by omega);simp only[go_sem,Ce h',f2];refine Ag (by kernel_rfl) ?_;simp only[go_sem,Aq,hx,qM,hy,qh];refine A1 qa (by simp only[go_sem]) ?_;simp only[go_sem,qQ];refine Bv (α:=Nat × St × V) (fun a=>X.length - a.1) (fun a=>[(3,.ptr 1 0 0),(5,SL zp 0 (p.thrs.map C2)),(6,SL zq 0 (q.thrs.map C2)),(7,a.2.2),(10,iV (b:Int)),(21,SL p.tz p.tt (p.thrs.map Tp.row)),(22,iV (p.thrs.length:Int)),(23,iV (i:Int)),(77,.lst 0 (Ec A)),(78,iV (X.length:Int)),(79,iV (a.1:Int))]) (fun a=>a.2.1) (fun a=>a.1<=X.length/\MQ p q a.2.1 a.2.2 (G6 (P.take i) Q++H8 b (A.take a.1))) ?_ (0,s,u) ⟨Ay _,by simpa[H8] using hm⟩;clear hm;clear s u;rintro⟨m,s,u⟩ ⟨qF,hm⟩ mh;simp only at qF hm mh;refine Bw (by delta lp8_2;exact rfl) ?_;rcases Br m X.length with h2 | h2;rotate_left
  .have qD:m=A.length:=by omega
   rw[qD,Cz,<-qj,<-qN]at hm;simp only[go_sem,Ce h2,i1];exact Bd (ih (i+1,s,u) (by simp only;omega) ⟨qb,hm⟩) rfl
  obtain⟨v,hv⟩:∃ v,A[m]?=some v:=⟨_,A2 (by omega)⟩;have jv:=Ant (X:=X) (Y:=Y) (m:=m) (by rw[hA];exact hv);have qI:(Ec A)[m]?=some [iV v]:=by unfold Ec;rw[Aq,hv];rfl
  have jc:=Aj1 (b:=b) hv;have m1:IntKind.i64.wrap ((m:Int)+1)=((m+1:Nat):Int):=Bf (by omega)
  obtain⟨w,hw⟩:∃ w:Int,w=if 0<=v then v+b else v:=⟨_,rfl⟩
  obtain⟨u',s',ha,qd,ji⟩:=Afv hm w (by rw[Aj];unfold H8;rw[Ba,Hw];omega);rw[D9,hw,<-jc]at qd;by_cases h0:0<=v
  .have f1:decide (0<=v)=true:=by simp[h0]
   have f2:IntKind.i64.wrap (v+(b:Int))=w:=by rw[hw,if_pos h0,C7 (by omega)]
   simp only[go_sem,Bp h2,qI,f1,f2,ha,m1];exact Bd (mh (m+1,s',u') (by simp only;omega) ⟨h2,qd⟩) rfl
  .have f1:decide (0<=v)=false:=by simp[h0]
   have f2:w=v:=by rw[hw,if_neg h0]
   rw[f2]at ha;simp only[go_sem,Bp h2,qI,f1,ha,m1];exact Bd (mh (m+1,s',u') (by simp only;omega) ⟨h2,qd⟩) rfl
def S7{s:List UInt8}{g:Gp}(h:Lz s=some g):PY g:=by
 obtain⟨a,b,c⟩:=Arm h;exact⟨A7u a b fun t ht=>by have:=c t ht;omega,c⟩
set_option maxHeartbeats 1000000 in
def V7(z1 z2:Bool)(t1 t2:Nat)(l:List Int)(hl:l.length<=1000000000000000):Fn TT PT 6 [SL z1 t1 (Ec l),SL z2 t2 (Ec l)] (.bool true):=by
 refine Bn T6 rfl ?_;have jq:=Vp l;simp only[go_sem,jq,bne_self_eq_false];refine Bv (α:=Nat) (fun i=>l.length - i) (fun i=>[(0,SL z1 t1 (Ec l)),(1,SL z2 t2 (Ec l)),(12,iV (l.length:Int)),(13,iV (i:Int))]) (fun _=>[]) (fun i=>i<=l.length) ?_ 0 (Ay _);intro i hi ih;refine Bw (by delta lp6_0;exact rfl) ?_;rcases Br i l.length with h' | h'
 .obtain⟨x,hx,-,-⟩:=Cw h';have qw:(Ec l)[i]?=some [iV x]:=by unfold Ec;rw[Aq,hx];rfl
  simp only[go_sem,Bp h'];refine Ag (by kernel_rfl) ?_;simp only[go_sem,qw,bne_self_eq_false];simp only[go_sem,Bf (show i<9223372036854775807 by omega)];exact Bd (ih (i+1) (by omega) h') rfl
 .simp only[go_sem,Ce h'];exact Ao rfl rfl
def Anu{s:List UInt8}{g:Gp}{v:V}(h:Lz s=some g)(hv:Uy s v):v=.tup [.agg g.row,iV 0,iV 0]:=by
 unfold Uy at hv;rw[h]at hv;exact hv
def A09{a b c:List UInt8}(h1:a≠c)(h2:b≠c)(h3:a≠b):Da 0 [a,b] [c,a,b]=[1,2]:=by
 have l1:Di [b] [b]=1:=by simp[M0,Mz]
 have l2:Di [a,b] [c,a,b]=2:=by simp[M0,Mz,Pc,h1,h2,h3]
 have e1:J5 a [b] [c,a,b]=some 1:=by simp[J5,Rp,List.range_succ,List.range_zero,l1,l2,h1.symm]
 have e2:J5 b [] [b]=some 0:=Awx b [];rw[Da,e1];simp only[Acg,Ln];rw[Da,e2];simp[Da]
def A84:(Lz [118,97,114,32,120,59,32,116,104,114,101,97,100,32,109,97,105,110,40,41,32,123,32,120,32,61,32,49,59,32,120,32,61,32,50,59,32,125]).map Gn=some [([109,97,105,110],[[120,32,61,32,49,59],[120,32,61,32,50,59]])]:=by kernel_rfl
def A85:(Lz [118,97,114,32,120,59,32,116,104,114,101,97,100,32,109,97,105,110,40,41,32,123,32,120,32,61,32,51,59,32,120,32,61,32,49,59,32,120,32,61,32,50,59,32,125]).map Gn=some [([109,97,105,110],[[120,32,61,32,51,59],[120,32,61,32,49,59],[120,32,61,32,50,59]])]:=by kernel_rfl
def A7v{p q:Gp}(h1:Gn p=[([109,97,105,110],[[120,32,61,32,49,59],[120,32,61,32,50,59]])])(h2:Gn q=[([109,97,105,110],[[120,32,61,32,51,59],[120,32,61,32,49,59],[120,32,61,32,50,59]])]):Ju p q=[1,2]:=by
 unfold Ju;rw[h1,h2,Aib,show G6 ([]:List (List UInt8 × List (List UInt8))) [([109,97,105,110],[[120,32,61,32,51,59],[120,32,61,32,49,59],[120,32,61,32,50,59]])]=[] from rfl,Cm];unfold Jg H8;rw[Iu,if_pos rfl];simp only[U6];rw[A09 (by decide) (by decide) (by decide)];rfl
set_option maxHeartbeats 2000000 in
def Vh:Fn TT PT 9 [] (.bool true):=by
 obtain⟨p,hp,sp⟩:=Bm.1 A84;obtain⟨q,hq,sq⟩:=Bm.1 A85;obtain⟨v,q1,hv⟩:=Sy [118,97,114,32,120,59,32,116,104,114,101,97,100,32,109,97,105,110,40,41,32,123,32,120,32,61,32,49,59,32,120,32,61,32,50,59,32,125];obtain⟨w,q2,hw⟩:=Sy [118,97,114,32,120,59,32,116,104,114,101,97,100,32,109,97,105,110,40,41,32,123,32,120,32,61,32,51,59,32,120,32,61,32,49,59,32,120,32,61,32,50,59,32,125];rw[Anu hp hv]at q1;rw[Anu hq hw]at q2;have hm:=Vq (S7 hp) (S7 hq);rw[A7v sp sq]at hm;have hs:=V7 true false 0 1 [1,2] (by decide);rw[show SL false 1 (Ec [1,2])=.lst 1 [[iV 1],[iV 2]] from rfl]at hs;have qG:=F1 p;have qH:=F1 q;rw[qG]at q1 hm;rw[qH]at q2 hm;refine Bn T9 rfl ?_;simp only[go_sem];refine Ad q1 (by simp only[go_sem]) ?_;simp only[go_sem];refine Ad q2 (by simp only[go_sem]) ?_;simp only[go_sem,beq_self_eq_true];refine Ad hm (by simp only[go_sem]) ?_;simp only[go_sem];refine Ad hs (by simp only[go_sem]) ?_;simp only[go_sem];exact Ao rfl rfl
