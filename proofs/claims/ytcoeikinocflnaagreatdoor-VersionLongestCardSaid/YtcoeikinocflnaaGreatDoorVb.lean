/- Walks: which line of one thread corresponds to which of the other, both sides. -/
import Derived.Test.YtcoeikinocflnaaGreatDoorVa
set_option linter.all false
namespace Go.Proofs.YtcoeikinocflnaaGreatDoor.KM
open Go
def C3(l:List Int):List (List V):=l.map fun k=>[.int .i64 k]
theorem Qq(l:List Int):(C3 l).length=l.length:=by unfold C3;rw[Bg]
theorem Abg(l:List Int):∀ r∈C3 l,r.length=1:=fun r hr=>by obtain⟨x,-,rfl⟩:=Dc.1 hr;rfl
theorem Ajg(l:List Int):∀ r∈C3 l,r.all V.rowB=true:=fun r hr=>by obtain⟨x,-,rfl⟩:=Dc.1 hr;rfl
theorem Ahy{D:List Int}{n i:Nat}(h:D.length=i)(hi:i<n)(v:Int):(D++List.replicate (n - i) 0).set i v=(D++[v])++List.replicate (n - (i+1)) 0:=by
 rw[Hh _ _ (by omega),h,Gq,show n - i=(n - (i+1))+1 by omega,Sc,List.set_cons_zero,Bz]
 rfl
theorem Aov{D R:List Int}{i:Nat}(h:D.length=i)(u v:Int):((D++[u])++R).set i v=(D++[v])++R:=by
 rw[Bz,Hh _ _ (by omega),h,Gq,Bz]
 rfl
theorem Akf{D:List Int}{n:Nat}{e:Nat}(h:D.length=n):FR (.sl 0 0 0 n 1 true) [.row (Az D) e 0 0] (.lst 0 (C3 D)):=by
 have:=Acc (σ:=[.row (Az D) e 0 0]) (i:=0) (g:=0) (m:=1) (e:=e) (xs:=C3 D) (by rw[Af4];rfl) (by omega) (Abg D) (Ajg D)
 rw[Qq,h]at this
 exact this
set_option maxHeartbeats 4000000 in
theorem Ari(z1 z2:Bool)(t1 t2:Nat)(X Y:List (List UInt8))(hX:X.length<=4096)(hY:Y.length<=4096):Fn TT PT 59 [SL z1 t1 (X.map fun x=>[V.str x]),SL z2 t2 (Y.map fun x=>[V.str x])] (.lst 0 (C3 (Bx 0 X Y))):=by
 refine Ch T59 rfl ?_
 have hXl:(X.map fun x=>[V.str x]).length=X.length:=Bg ..
 have hYl:(Y.map fun x=>[V.str x]).length=Y.length:=Bg ..
 have q:=Am8 z1 z2 t1 t2 X Y (by omega) (by omega)
 unfold Pp at q
 have a1:(4096<(X.length:Int))=False:=eq_false (by omega)
 have a2:(4096<(Y.length:Int))=False:=eq_false (by omega)
 have b1:(0<=(X.length:Int))=True:=eq_true (by omega)
 have b2:((X.length:Int)<=(X.length:Int))=True:=eq_true (P9 _)
 have b3:(X.length*8<=140737488355328)=True:=eq_true (by omega)
 have c3:∀ n:Nat,(0<=n)=True:=fun n=>eq_true (A5 n)
 simp only[go_sem,hXl,hYl,a1,a2]
 refine An q (by simp only[go_sem]) ?_
 simp only[go_sem,hXl,b1,b2,b3,Qp,Ti]
 refine Cr (α:=Nat × Nat × List Int) (fun a=>X.length - a.1) (fun a=>[(0,SL z1 t1 (X.map fun x=>[V.str x])),(1,SL z2 t2 (Y.map fun x=>[V.str x])),(5,.lst 0 ((Ht X Y).map fun r=>[V.lst 0 (r.map fun x=>[V.int .i64 x])])),(6,.sl 0 0 0 X.length 1 true),(7,.int .i64 (a.2.1:Int)),(25,.int .i64 (X.length:Int)),(26,.int .i64 (a.1:Int))]) (fun a=>[.row (Az (a.2.2++List.replicate (X.length - a.1) 0)) 3 0 0]) (fun a=>a.1<=X.length/\a.2.1<=Y.length/\a.2.2.length=a.1/\a.2.2++Bx a.2.1 (X.drop a.1) (Y.drop a.2.1)=Bx 0 X Y) ?_ (0,0,[]) ⟨A5 _,A5 _,rfl,by simp⟩
 rintro⟨i,j,D⟩ ⟨hi,hj,hD,hA⟩ ih
 simp only at hi hj hD hA ih
 refine Ct (by delta lp59_1;exact rfl) ?_
 rcases B3 i X.length with hi' | hi'
 rotate_left
 ·obtain rfl:i=X.length:=by omega
  rw[Y2,Bx,Cx]at hA
  subst hA
  rw[Gq,List.replicate_zero,Cx]
  simp only[go_sem,D5 hi']
  exact Akf hD
 obtain⟨x,hx,-,-⟩:=Eu hi'
 have g1:(0<=(i:Int))=True:=eq_true (by omega)
 have g2:((i:Int)<(X.length:Int))=True:=eq_true (by omega)
 have hLl:(D++List.replicate (X.length - i) (0:Int)).length=X.length:=by rw[Aj,Oi];omega
 have m1:(i+1<=(Az (D++List.replicate (X.length - i) 0)).length)=True:=eq_true (by rw[Id,hLl];omega)
 obtain⟨nx,hnx⟩:∃ nx:Int->List Int,∀ v,nx v=(D++[v])++List.replicate (X.length - (i+1)) 0:=⟨_,fun _=>rfl⟩
 have e1:∀ v:Int,List.take i (Az (D++List.replicate (X.length - i) 0))++V.int .i64 v::List.drop (i+1) (Az (D++List.replicate (X.length - i) 0))=Az (nx v):=fun v=>by rw[Q1 (by omega),Ahy hD hi',hnx]
 have i1:IntKind.i64.wrap ((i:Int)+1)=((i+1:Nat):Int):=Bq (by omega)
 simp only[go_sem,Cb hi']
 refine Cr (α:=Nat) (fun k=>Y.length - k) (fun k=>[(0,SL z1 t1 (X.map fun x=>[V.str x])),(1,SL z2 t2 (Y.map fun x=>[V.str x])),(5,.lst 0 ((Ht X Y).map fun r=>[V.lst 0 (r.map fun x=>[V.int .i64 x])])),(6,.sl 0 0 0 X.length 1 true),(7,.int .i64 (j:Int)),(8,.int .i64 (i:Int)),(9,.int .i64 (k:Int)),(25,.int .i64 (X.length:Int)),(26,.int .i64 (i:Int))]) (fun _=>[.row (Az (D++List.replicate (X.length - i) 0)) 3 0 0]) (fun k=>j<=k/\k<=Y.length/\∀ k',j<=k'->k'<k->¬ Jy X Y i j k') ?_ j ⟨Ah _,hj,fun k' h1 h2=>by omega⟩
 rintro k ⟨hjk,hk,hno⟩ kh
 refine Ct (by delta lp59_0;exact rfl) ?_
 rcases B3 k Y.length with hk' | hk'
 rotate_left
 ·obtain rfl:k=Y.length:=by omega
  rw[Ahp hi' hno]at hA
  simp only[go_sem,D5 hk',hYl,g1,g2,m1,c3,e1,i1]
  rw[hnx]
  refine Bd (ih (i+1,j,D++[-1]) (by simp only;omega) ⟨hi',hj,by simp[hD],?_⟩) rfl
  rw[Bz]
  exact hA
 obtain⟨y,hy,-,-⟩:=Eu hk'
 have k1:IntKind.i64.wrap ((k:Int)+1)=((k+1:Nat):Int):=Bq (by omega)
 by_cases e:x=y
 rotate_left
 ·have f1:(x==y)=false:=by simp[e]
  simp only[go_sem,Cb hk',hYl]
  refine Ax (by kernel_rfl) ?_
  simp only[go_sem,A7,hx,hy,f1]
  simp only[go_sem,k1]
  refine Bd (kh (k+1) (by omega) ⟨by omega,hk',fun k' h1 h2=>?_⟩) rfl
  rcases B3 k' k with h | h
  ·exact hno k' h1 h
  ·obtain rfl:k'=k:=by omega
   intro hh
   have:=hh.1
   rw[hx,hy]at this
   exact e (J3 this)
 have f1:(x==y)=true:=by simp[e]
 have T1:=W0 (Te X Y (i:=i+1) hi')
 have T0:=W0 (Te X Y (i:=i) (Ln hi'))
 have n1:=Yc (Mz X Y (i:=i+1) (k:=k+1) hk')
 have n0:=Yc (Mz X Y (i:=i) (k:=j) hj)
 have l1:=Xf X Y (i+1) (k+1)
 have f2:IntKind.i64.wrap (1+((Be X Y (i+1) (k+1):Nat):Int))=((1+Be X Y (i+1) (k+1):Nat):Int):=by rw[Ed (by omega)];rfl
 by_cases hh:1+Be X Y (i+1) (k+1)=Be X Y i j
 ·have f3:(((1+Be X Y (i+1) (k+1):Nat):Int)==((Be X Y i j:Nat):Int))=true:=by rw[hh];simp
  have hhit:Jy X Y i j k:=⟨by rw[hx,hy,e],hh⟩
  rw[Ai4 hi' hjk hk' hhit hno]at hA
  simp only[go_sem,Cb hk',hYl]
  refine Ax (by kernel_rfl) ?_
  simp only[go_sem,A7,hx,hy,f1,i1,k1,T1,T0,n1,n0,f2,f3]
  simp only[go_sem,g1,g2,m1,c3,e1,k1,i1]
  rw[hnx]
  refine Bd (ih (i+1,k+1,D++[(k:Int)]) (by simp only;omega) ⟨hi',hk',by simp[hD],?_⟩) rfl
  rw[Bz]
  exact hA
 ·have f3:(((1+Be X Y (i+1) (k+1):Nat):Int)==((Be X Y i j:Nat):Int))=false:=by
   rw[beq_eq_false_iff_ne]
   omega
  simp only[go_sem,Cb hk',hYl]
  refine Ax (by kernel_rfl) ?_
  simp only[go_sem,A7,hx,hy,f1,i1,k1,T1,T0,n1,n0,f2,f3]
  refine Bd (kh (k+1) (by omega) ⟨by omega,hk',fun k' h1 h2=>?_⟩) rfl
  rcases B3 k' k with h | h
  ·exact hno k' h1 h
  ·obtain rfl:k'=k:=by omega
   exact fun h=>hh h.2
set_option maxHeartbeats 4000000 in
theorem Au6(z1 z2:Bool)(t1 t2:Nat)(X Y:List (List UInt8))(hX:X.length<=4096)(hY:Y.length<=4096):Fn TT PT 60 [SL z1 t1 (X.map fun x=>[V.str x]),SL z2 t2 (Y.map fun x=>[V.str x])] (.lst 0 (C3 (Bx 0 X Y))):=by
 refine Ch T60 rfl ?_
 have hXl:(X.map fun x=>[V.str x]).length=X.length:=Bg ..
 have hYl:(Y.map fun x=>[V.str x]).length=Y.length:=Bg ..
 have q:=Am9 z1 z2 t1 t2 X Y (by omega) (by omega)
 unfold Pp at q
 have b1:(0<=(X.length:Int))=True:=eq_true (by omega)
 have b2:((X.length:Int)<=(X.length:Int))=True:=eq_true (P9 _)
 have b3:(X.length*8<=140737488355328)=True:=eq_true (by omega)
 have c3:∀ n:Nat,(0<=n)=True:=fun n=>eq_true (A5 n)
 simp only[go_sem]
 refine An q (by simp only[go_sem]) ?_
 simp only[go_sem,hXl,b1,b2,b3,Qp,Ti]
 refine Cr (α:=Nat × Nat × List Int) (fun a=>X.length - a.1) (fun a=>[(0,SL z1 t1 (X.map fun x=>[V.str x])),(1,SL z2 t2 (Y.map fun x=>[V.str x])),(5,.lst 0 ((Ht X Y).map fun r=>[V.lst 0 (r.map fun x=>[V.int .i64 x])])),(6,.sl 0 0 0 X.length 1 true),(7,.int .i64 (a.2.1:Int)),(17,.int .i64 (X.length:Int)),(18,.int .i64 (a.1:Int))]) (fun a=>[.row (Az (a.2.2++List.replicate (X.length - a.1) 0)) 3 0 0]) (fun a=>a.1<=X.length/\a.2.1<=Y.length/\a.2.2.length=a.1/\a.2.2++Bx a.2.1 (X.drop a.1) (Y.drop a.2.1)=Bx 0 X Y) ?_ (0,0,[]) ⟨A5 _,A5 _,rfl,by simp⟩
 rintro⟨i,j,D⟩ ⟨hi,hj,hD,hA⟩ ih
 simp only at hi hj hD hA ih
 refine Ct (by delta lp60_1;exact rfl) ?_
 rcases B3 i X.length with hi' | hi'
 rotate_left
 ·obtain rfl:i=X.length:=by omega
  rw[Y2,Bx,Cx]at hA
  subst hA
  rw[Gq,List.replicate_zero,Cx]
  simp only[go_sem,D5 hi']
  exact Akf hD
 obtain⟨x,hx,-,-⟩:=Eu hi'
 have g1:(0<=(i:Int))=True:=eq_true (by omega)
 have g2:((i:Int)<(X.length:Int))=True:=eq_true (by omega)
 have hLl:(D++List.replicate (X.length - i) (0:Int)).length=X.length:=by rw[Aj,Oi];omega
 have hLm:∀ u:Int,((D++[u])++List.replicate (X.length - (i+1)) (0:Int)).length=X.length:=fun u=>by rw[Aj,Aj,Oi,Mi];omega
 have m1:(i+1<=(Az (D++List.replicate (X.length - i) 0)).length)=True:=eq_true (by rw[Id,hLl];omega)
 have e1:List.take i (Az (D++List.replicate (X.length - i) 0))++V.int .i64 (-1)::List.drop (i+1) (Az (D++List.replicate (X.length - i) 0))=Az ((D++[-1])++List.replicate (X.length - (i+1)) 0):=by rw[Q1 (by omega),Ahy hD hi']
 obtain⟨L1,hL1⟩:∃ L1,L1=(D++[-1])++List.replicate (X.length - (i+1)) (0:Int):=⟨_,rfl⟩
 have hL1l:L1.length=X.length:=by rw[hL1];exact hLm _
 have m2:(i+1<=(Az L1).length)=True:=eq_true (by rw[Id,hL1l];omega)
 obtain⟨nx,hnx⟩:∃ nx:Int->List Int,∀ v,nx v=(D++[v])++List.replicate (X.length - (i+1)) 0:=⟨_,fun _=>rfl⟩
 have e2:∀ v:Int,List.take i (Az L1)++V.int .i64 v::List.drop (i+1) (Az L1)=Az (nx v):=fun v=>by rw[Q1 (by omega),hL1,Aov hD,hnx]
 rw[<-hL1]at e1
 have i1:IntKind.i64.wrap ((i:Int)+1)=((i+1:Nat):Int):=Bq (by omega)
 simp only[go_sem,Cb hi',g1,g2,m1,c3,e1]
 refine Cr (α:=Nat) (fun k=>Y.length - k) (fun k=>[(0,SL z1 t1 (X.map fun x=>[V.str x])),(1,SL z2 t2 (Y.map fun x=>[V.str x])),(5,.lst 0 ((Ht X Y).map fun r=>[V.lst 0 (r.map fun x=>[V.int .i64 x])])),(6,.sl 0 0 0 X.length 1 true),(7,.int .i64 (j:Int)),(8,.int .i64 (i:Int)),(9,.int .i64 (k:Int)),(17,.int .i64 (X.length:Int)),(18,.int .i64 (i:Int))]) (fun _=>[.row (Az L1) 3 0 0]) (fun k=>j<=k/\k<=Y.length/\∀ k',j<=k'->k'<k->¬ Jy X Y i j k') ?_ j ⟨Ah _,hj,fun k' h1 h2=>by omega⟩
 rintro k ⟨hjk,hk,hno⟩ kh
 refine Ct (by delta lp60_0;exact rfl) ?_
 rcases B3 k Y.length with hk' | hk'
 rotate_left
 ·obtain rfl:k=Y.length:=by omega
  rw[Ahp hi' hno]at hA
  simp only[go_sem,D5 hk',hYl,i1]
  rw[hL1]
  refine Bd (ih (i+1,j,D++[-1]) (by simp only;omega) ⟨hi',hj,by simp[hD],?_⟩) rfl
  rw[Bz]
  exact hA
 obtain⟨y,hy,-,-⟩:=Eu hk'
 have k1:IntKind.i64.wrap ((k:Int)+1)=((k+1:Nat):Int):=Bq (by omega)
 by_cases e:x=y
 rotate_left
 ·have f1:(x==y)=false:=by simp[e]
  simp only[go_sem,Cb hk',hYl]
  refine Ax (by kernel_rfl) ?_
  simp only[go_sem,A7,hx,hy,f1]
  simp only[go_sem,k1]
  refine Bd (kh (k+1) (by omega) ⟨by omega,hk',fun k' h1 h2=>?_⟩) rfl
  rcases B3 k' k with h | h
  ·exact hno k' h1 h
  ·obtain rfl:k'=k:=by omega
   intro hh
   have:=hh.1
   rw[hx,hy]at this
   exact e (J3 this)
 have f1:(x==y)=true:=by simp[e]
 have T1:=W0 (Te X Y (i:=i+1) hi')
 have T0:=W0 (Te X Y (i:=i) (Ln hi'))
 have n1:=Yc (Mz X Y (i:=i+1) (k:=k+1) hk')
 have n0:=Yc (Mz X Y (i:=i) (k:=j) hj)
 have l1:=Xf X Y (i+1) (k+1)
 have f2:IntKind.i64.wrap (1+((Be X Y (i+1) (k+1):Nat):Int))=((1+Be X Y (i+1) (k+1):Nat):Int):=by rw[Ed (by omega)];rfl
 by_cases hh:1+Be X Y (i+1) (k+1)=Be X Y i j
 ·have f3:(((1+Be X Y (i+1) (k+1):Nat):Int)==((Be X Y i j:Nat):Int))=true:=by rw[hh];simp
  have hhit:Jy X Y i j k:=⟨by rw[hx,hy,e],hh⟩
  rw[Ai4 hi' hjk hk' hhit hno]at hA
  simp only[go_sem,Cb hk',hYl]
  refine Ax (by kernel_rfl) ?_
  simp only[go_sem,A7,hx,hy,f1,i1,k1,T1,T0,n1,n0,f2,f3]
  simp only[go_sem,g1,g2,m2,c3,e2,k1,i1]
  rw[hnx]
  refine Bd (ih (i+1,k+1,D++[(k:Int)]) (by simp only;omega) ⟨hi',hk',by simp[hD],?_⟩) rfl
  rw[Bz]
  exact hA
 ·have f3:(((1+Be X Y (i+1) (k+1):Nat):Int)==((Be X Y i j:Nat):Int))=false:=by
   rw[beq_eq_false_iff_ne]
   omega
  simp only[go_sem,Cb hk',hYl]
  refine Ax (by kernel_rfl) ?_
  simp only[go_sem,A7,hx,hy,f1,i1,k1,T1,T0,n1,n0,f2,f3]
  refine Bd (kh (k+1) (by omega) ⟨by omega,hk',fun k' h1 h2=>?_⟩) rfl
  rcases B3 k' k with h | h
  ·exact hno k' h1 h
  ·obtain rfl:k'=k:=by omega
   exact fun h=>hh h.2
end Go.Proofs.YtcoeikinocflnaaGreatDoor.KM
