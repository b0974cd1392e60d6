/- Walks: one statement as the static rules see it. -/
import Derived.Test.YtcoeikinocflnaaGreatDoorIc
set_option linter.all false
namespace Go.Proofs.YtcoeikinocflnaaGreatDoor.KM
open Go
theorem rdP{s:St}{ob k off n x:Nat}{cs vs:List V}{e:Env}(q:s[ob]?=some (.row cs k 0 0))(he:e.get x=.ptr ob 0 off)(hl:off+n<=cs.length)(hv:(cs.drop off).take n=vs):Ae (.load n false (.t x)) e s=some (.agg vs,s):=by
 simp only[Ae,Ab,he,Gy,q];rw[if_pos ⟨trivial,hl⟩,hv];rfl
theorem Lr{v:V}(h:v.cellB=true):v.cells=[v]/\[v].all V.cellB=true:=⟨by cases v<;>simp[V.cellB]at h<;>rfl,by simp only[Au,A1,h];rfl⟩
theorem Ade{σ:St}{u:V}{L:List (List UInt8)}(h:GS σ 1 9 u (L.map fun x=>[V.str x])):∃ z,OV σ u (SL z 0 (L.map fun x=>[V.str x])):=by
 obtain⟨z,hz⟩:=Adc h (by omega);exact⟨z,Xo hz (Hg h)⟩
def Amb(w:Nat)(p:Gp)(th:Int)(uA:V)(A:List (List V))(S T:List (List UInt8))(σ:St)(v:V)(σ':St):Prop:=∃ e:Int,v=.int .i64 e/\∃ (vS vT:V) (S' T':List (List UInt8)),WK σ' w p th uA vS vT A (S'.map fun x=>[V.str x]) (T'.map fun x=>[V.str x])/\FW w σ σ'/\S'.length<=S.length+1/\T'.length<=T.length+1
set_option maxHeartbeats 8000000 in
theorem Ax8{σ:St}{w:Nat}{p:Gp}{th:Int}{uA uS uT:V}{X:List Sp}{S T:List (List UInt8)}(h:WK σ w p th uA uS uT (X.map Sp.row) (S.map fun x=>[V.str x]) (T.map fun x=>[V.str x]))(hp:LnG p)(hX:X.length<=1000000)(hS:S.length<=1000000)(hT:T.length<=1000000)(x:Sp)(hx:Ct x.row<=1000000000):
  ∃ v σ',Th TT PT 139 [.ptr w 0 0,.agg x.row] σ v σ'/\Amb w p th uA (X.map Sp.row) S T σ v σ':=by
 obtain⟨op,line,nm,arg,iz,it,idx,ex,bz,bt,body,ez,et,els⟩:=x;have hbx:=hx;rw[Ju]at hbx;simp only at hbx;have hxs:=Fi ⟨op,line,nm,arg,iz,it,idx,ex,bz,bt,body,ez,et,els⟩;rw[Eg]at hxs ⊢;simp only at hxs ⊢;obtain⟨_,w81,r81,rfl,-⟩:=K0 hp th nm 8 1;obtain⟨_,w22,r22,rfl,-⟩:=K0 hp th nm 2 2;obtain⟨_,w33,r33,rfl,-⟩:=K0 hp th nm 3 3;obtain⟨_,w44,r44,rfl,-⟩:=K0 hp th nm 4 4;obtain⟨_,w55,r55,rfl,d55⟩:=K0 hp th nm 5 5;obtain⟨_,w77,r77,rfl,-⟩:=K0 hp th nm 7 7;obtain⟨_,w66,r66,rfl,-⟩:=K0 hp th nm 6 6;obtain⟨_,w88,r88,rfl,-⟩:=K0 hp th nm 8 8;obtain⟨_,a66,s66,rfl,-⟩:=K0 hp th arg 6 6;obtain⟨_,q0,e0,rfl⟩:=Ahq hp th ex (by omega);have tat:=Yc p.tz p.tt p.thrs nm (by have:=hp.t;omega);have dat:=Rm p.dz p.dt p.decls nm (by have:=hp.d;omega);rw[Pv]at w81 w22 w33 w44 w55 w77 w66 w88 a66 q0;rw[Ax]at q0;have hps:=Yy p;rw[Pv]at hps;have hw:=N6 h;refine Aby T139 rfl ?_;refine El (fun e s=>e=[(0,.ptr w 0 0),(3,.ptr σ.length 0 0)]/\s=σ++[.row [.int .i64 op,.int .i64 line,.str nm,.str arg,SL iz it (idx.map Xp.row),.int .i64 ex.op,.int .i64 ex.n,.str ex.nm,SL ex.z ex.t (ex.l.map Xp.row),SL bz bt (body.map Sp.row),SL ez et (els.map Sp.row)] 105 0 0]) (fun k' hk=>?_) ?_
 ·simp only[go_sem];exact hk _ _ ⟨rfl,rfl⟩
 rintro e s ⟨rfl,rfl⟩;refine El (fun e s=>∃ n m:Nat,e=[(0,.ptr w 0 0),(3,.ptr n 0 0),(5,.ptr m 0 0),(6,.int .i64 th)]/\(WK s w p th uA uS uT (X.map Sp.row) (S.map fun x=>[V.str x]) (T.map fun x=>[V.str x])/\FW w σ s)/\(σ.length<=n/\σ.length<=m)/\s[n]?=some (.row [.int .i64 op,.int .i64 line,.str nm,.str arg,SL iz it (idx.map Xp.row),.int .i64 ex.op,.int .i64 ex.n,.str ex.nm,SL ex.z ex.t (ex.l.map Xp.row),SL bz bt (body.map Sp.row),SL ez et (els.map Sp.row)] 105 0 0)/\s[m]?=some (.row [SL p.dz p.dt (p.decls.map Dp.row),SL p.tz p.tt (p.thrs.map Tp.row)] 27 0 0)) (fun k' hk=>?_) ?_
 ·have hr0:=h.row;have hr:=Br (l:=[.row [.int .i64 op,.int .i64 line,.str nm,.str arg,SL iz it (idx.map Xp.row),.int .i64 ex.op,.int .i64 ex.n,.str ex.nm,SL ex.z ex.t (ex.l.map Xp.row),SL bz bt (body.map Sp.row),SL ez et (els.map Sp.row)] 105 0 0]) h.row;have hc1:Cl (σ++[.row [.int .i64 op,.int .i64 line,.str nm,.str arg,SL iz it (idx.map Xp.row),.int .i64 ex.op,.int .i64 ex.n,.str ex.nm,SL ex.z ex.t (ex.l.map Xp.row),SL bz bt (body.map Sp.row),SL ez et (els.map Sp.row)] 105 0 0]):=Gv h.cl hxs;have hc2:Cl (σ++[.row [.int .i64 op,.int .i64 line,.str nm,.str arg,SL iz it (idx.map Xp.row),.int .i64 ex.op,.int .i64 ex.n,.str ex.nm,SL ex.z ex.t (ex.l.map Xp.row),SL bz bt (body.map Sp.row),SL ez et (els.map Sp.row)] 105 0 0]++[.row [SL p.dz p.dt (p.decls.map Dp.row),SL p.tz p.tt (p.thrs.map Tp.row)] 27 0 0]):=Gv hc1 hps;rw[E4]at hc2;refine Ag (by kernel_rfl) ?_;simp only[go_sem,hr];refine Ay (h2:=⟨.inr ⟨Vr hr rfl rfl,Vr (Br hr0) rfl rfl⟩,.inr ⟨rdP hr rfl (Nat.le_of_ble_eq_true rfl) rfl,rdP (Br hr0) rfl (Nat.le_of_ble_eq_true rfl) rfl⟩,trivial⟩) ?_;simp only[go_sem];refine Ay (h2:=⟨.inr ⟨Vr (Br hr0) rfl rfl,Vr (Br hr0) rfl rfl⟩,.inl rfl,trivial⟩) ?_;simp only[go_sem];refine hk _ _ ⟨σ.length,σ.length+1,by first | rfl | simp,?_,?_,?_,?_⟩
  ·first | exact⟨Abx h _ hc2,Xr _ hw⟩ | (rw[E4];exact⟨Abx h _ hc2,Xr _ hw⟩)
  ·omega
  ·simp
  ·simp
 rintro e s ⟨n,m,rfl,⟨h1,f1⟩,⟨hn,hm⟩,k3,k5⟩;have hr:=h1.row;refine El (fun e s'=>s'=s/\∃ tx,e=[(0,.ptr w 0 0),(3,.ptr n 0 0),(5,.ptr m 0 0),(6,.int .i64 th),(7,.bool tx)]) (fun k' hk=>?_) ?_
 ·obtain⟨_,i1,z1,rfl⟩:=Mk h1 (by omega) 7 7 [];simp only[go_sem];refine B5 i1 ?_;simp only[go_sem];exact hk _ _ ⟨rfl,_,rfl⟩
 rintro e s' ⟨hs',tx,rfl⟩;obtain rfl:=hs'.symm;refine El (fun e s'=>s'=s/\∃ ao,e=[(0,.ptr w 0 0),(3,.ptr n 0 0),(5,.ptr m 0 0),(6,.int .i64 th),(7,.bool tx),(8,.bool ao)]) (fun k' hk=>?_) ?_
 ·obtain⟨_,i1,z1,rfl⟩:=Mk h1 (by omega) 8 8 [];simp only[go_sem];refine B5 i1 ?_;simp only[go_sem];exact hk _ _ ⟨rfl,_,rfl⟩
 rintro e s' ⟨hs',ao,rfl⟩;obtain rfl:=hs'.symm;refine El (fun e s'=>s'=s/\∃ lp,e=[(0,.ptr w 0 0),(3,.ptr n 0 0),(5,.ptr m 0 0),(6,.int .i64 th),(7,.bool tx),(8,.bool ao),(9,.bool lp)]) (fun k' hk=>?_) ?_
 ·obtain⟨_,i1,z1,rfl⟩:=Mk h1 (by omega) 3 3 [];simp only[go_sem];refine B5 i1 ?_;simp only[go_sem];exact hk _ _ ⟨rfl,_,rfl⟩
 rintro e s' ⟨hs',lp,rfl⟩;obtain rfl:=hs'.symm
 have hnf:∀ j,σ.length<=j->j ∉ fp s w:=fun j hj hm=>by
  rw[N7 h1]at hm;have g1:=N7 h;simp only[Be,Cq]at hm;rcases hm with rfl | hm | hm | hm
  ·omega
  ·have:=Ch h.a j hm;omega
  ·have:=Ch h.s j hm;omega
  ·have:=Ch h.t j hm;omega
 have fin:∀ r:Int,∃ v,some (V.int .i64 r)=some v/\(Cc v=true/\v.refs=[])/\(σ.length<=s.length/\Cl s)/\Amb w p th uA (X.map Sp.row) S T σ v s:=fun r=>⟨_,rfl,⟨rfl,rfl⟩,⟨f1.1,h1.cl⟩,r,rfl,_,_,S,T,h1,f1,by omega,by omega⟩
 by_cases o1:op=1
 ·subst o1
  cases idx with
  | nil=>
   obtain⟨_,oq,r2,rfl⟩:=Fh r81 e0;simp only[go_sem,Int.reduceBEq,k3,k5,hr,Bs,Cx];refine Ag (by kernel_rfl) ?_;simp only[go_sem,Int.reduceBEq,k3,k5,hr];refine Bf w81 (by simp only[go_sem]) ?_;simp only[go_sem,Int.reduceBEq,k3,k5,hr];refine Bf q0 (by simp only[go_sem]) ?_;simp only[go_sem,Int.reduceBEq,k3,k5,hr];refine Bf oq (by simp only[go_sem]) ?_;simp only[go_sem];exact fin _
  | cons a r=>
   have hba:=Hf (f:=Xp.row) (l:=a::r) (x:=a) (by simp);obtain⟨_,q1,e1,rfl⟩:=Ahq hp th a (by omega);rw[Pv,Ax]at q1;have hlr:((r.length:Int)+1==0)=false:=by simp;omega
   have hlr2:(((r.length+1:Nat):Int)==0)=false:=by simp;omega
   have har:=Ax a;obtain⟨_,oq,r2,rfl⟩:=Fh e1 e0;obtain⟨_,oq2,r3,rfl⟩:=Fh r22 r2;simp only[go_sem,Int.reduceBEq,k3,k5,hr,Ba,Am,Bl,hlr,hlr2];refine Ag (by kernel_rfl) ?_;simp only[go_sem,Int.reduceBEq,k3,k5,hr,Ba,Vz,har];refine Bf w22 (by simp only[go_sem]) ?_;simp only[go_sem,Int.reduceBEq,k3,k5,hr,Ba,Vz,har];refine Bf q1 (by simp only[go_sem]) ?_;simp only[go_sem,Int.reduceBEq,k3,k5,hr];refine Bf q0 (by simp only[go_sem]) ?_;simp only[go_sem,Int.reduceBEq,k3,k5,hr];refine Bf oq (by simp only[go_sem]) ?_;simp only[go_sem,Int.reduceBEq,k3,k5,hr];refine Bf oq2 (by simp only[go_sem]) ?_;simp only[go_sem];exact fin _
 have o1:(op==1)=false:=by simp[o1]
 by_cases o2:op=2
 ·subst o2;simp only[go_sem,Int.reduceBEq,k3,k5,hr];refine Ad q0 (by simp only[go_sem]) ?_;simp only[go_sem];exact fin _
 have o2:(op==2)=false:=by simp[o2]
 by_cases o3:op=3
 ·subst o3;simp only[go_sem,Int.reduceBEq,k3,k5,hr];refine Ad q0 (by simp only[go_sem]) ?_;simp only[go_sem];exact fin _
 have o3:(op==3)=false:=by simp[o3]
 by_cases o4:op=4
 ·subst o4;cases tx
  ·obtain⟨_,i1,z1,rfl⟩:=Mk h1 (by omega) 4 4 nm;obtain⟨_,nq,r1,rfl⟩:=Fo z1;obtain⟨_,oq,r2,rfl⟩:=Fh r33 r1;simp only[go_sem,Int.reduceBEq,k3,k5,hr];refine Ad w33 (by simp only[go_sem]) ?_;simp only[go_sem,Int.reduceBEq,k3,k5,hr];refine B5 i1 ?_;simp only[go_sem,Int.reduceBEq,k3,k5,hr];refine Ad nq (by simp only[go_sem]) ?_;simp only[go_sem];refine Ad oq (by simp only[go_sem]) ?_;simp only[go_sem];exact fin _
  ·obtain⟨_,nq,r1,rfl⟩:=Fo true;obtain⟨_,oq,r2,rfl⟩:=Fh r33 r1;simp only[go_sem,Int.reduceBEq,k3,k5,hr];refine Ad w33 (by simp only[go_sem]) ?_;simp only[go_sem,Int.reduceBEq,k3,k5,hr];refine Ad nq (by simp only[go_sem]) ?_;simp only[go_sem];refine Ad oq (by simp only[go_sem]) ?_;simp only[go_sem];exact fin _
 have o4:(op==4)=false:=by simp[o4]
 by_cases o5:op=5
 ·subst o5;cases tx
  ·obtain⟨_,i1,z1,rfl⟩:=Mk h1 (by omega) 5 6 nm;obtain⟨_,nq,r1,rfl⟩:=Fo z1;obtain⟨_,oq,r2,rfl⟩:=Fh r44 r1;simp only[go_sem,Int.reduceBEq,k3,k5,hr];refine Ad w44 (by simp only[go_sem]) ?_;simp only[go_sem,Int.reduceBEq,k3,k5,hr];refine B5 i1 ?_;simp only[go_sem,Int.reduceBEq,k3,k5,hr];refine Ad nq (by simp only[go_sem]) ?_;simp only[go_sem];refine Ad oq (by simp only[go_sem]) ?_;simp only[go_sem];exact fin _
  ·obtain⟨_,nq,r1,rfl⟩:=Fo true;obtain⟨_,oq,r2,rfl⟩:=Fh r44 r1;simp only[go_sem,Int.reduceBEq,k3,k5,hr];refine Ad w44 (by simp only[go_sem]) ?_;simp only[go_sem,Int.reduceBEq,k3,k5,hr];refine Ad nq (by simp only[go_sem]) ?_;simp only[go_sem];refine Ad oq (by simp only[go_sem]) ?_;simp only[go_sem];exact fin _
 have o5:(op==5)=false:=by simp[o5]
 by_cases o6:op=6
 ·subst o6;cases tx
  ·obtain⟨_,i1,z1,rfl⟩:=Mk h1 (by omega) 5 6 nm;obtain⟨_,nq,r1,rfl⟩:=Fo z1;obtain⟨_,oq,r2,rfl⟩:=Fh r44 r1;simp only[go_sem,Int.reduceBEq,k3,k5,hr];refine Ad w44 (by simp only[go_sem]) ?_;simp only[go_sem,Int.reduceBEq,k3,k5,hr];refine B5 i1 ?_;simp only[go_sem,Int.reduceBEq,k3,k5,hr];refine Ad nq (by simp only[go_sem]) ?_;simp only[go_sem];refine Ad oq (by simp only[go_sem]) ?_;simp only[go_sem];exact fin _
  ·obtain⟨_,nq,r1,rfl⟩:=Fo true;obtain⟨_,oq,r2,rfl⟩:=Fh r44 r1;simp only[go_sem,Int.reduceBEq,k3,k5,hr];refine Ad w44 (by simp only[go_sem]) ?_;simp only[go_sem,Int.reduceBEq,k3,k5,hr];refine Ad nq (by simp only[go_sem]) ?_;simp only[go_sem];refine Ad oq (by simp only[go_sem]) ?_;simp only[go_sem];exact fin _
 have o6:(op==6)=false:=by simp[o6]
 by_cases o7:op=7
 ·subst o7;obtain⟨_,nq,r1,rfl⟩:=Fo tx;simp only[go_sem,Int.reduceBEq,k3,k5,hr];refine Ad nq (by simp only[go_sem]) ?_;simp only[go_sem];exact fin _
 have o7:(op==7)=false:=by simp[o7]
 by_cases o8:op=8
 ·subst o8;cases tx
  ·obtain⟨_,nq,r1,rfl⟩:=Fo ao;simp only[go_sem,Int.reduceBEq,k3,k5,hr];refine Ad nq (by simp only[go_sem]) ?_;simp only[go_sem];exact fin _
  ·obtain⟨_,nq,r1,rfl⟩:=Fo true;simp only[go_sem,Int.reduceBEq,k3,k5,hr];refine Ad nq (by simp only[go_sem]) ?_;simp only[go_sem];exact fin _
 have o8:(op==8)=false:=by simp[o8]
 by_cases o9:op=9
 ·subst o9;by_cases z5:r55=0;rotate_left
  ·have y5:(r55==0)=false:=by simp[z5]
   simp only[go_sem,Int.reduceBEq,k3,k5,hr];refine Ad w55 (by simp only[go_sem]) ?_;simp only[go_sem,Int.reduceBEq,k3,k5,hr,y5,bne,Av];exact fin _
  have y5:(r55==0)=true:=by simp[z5]
  obtain⟨i,d,di,hd,hil⟩:=Xv (d55 rfl rfl z5)
  rw[di]at dat
  have hdr:d.row=[.int .i64 d.kind,.int .i64 d.line,.str d.nm,.int .i64 d.size,.int .i64 d.init,.str d.on]:=rfl;obtain⟨_,i1,z1,rfl⟩:=Mk h1 (by omega) 4 4 d.on;simp only[go_sem,Int.reduceBEq,k3,k5,hr];refine Ad w55 (by simp only[go_sem]) ?_;simp only[go_sem,Int.reduceBEq,k3,k5,hr,y5,bne,Ap];refine Ag (by kernel_rfl) ?_;simp only[go_sem,Int.reduceBEq,k3,k5,hr];refine Bf dat (by simp only[go_sem]) ?_;simp only[go_sem,Int.reduceBEq,k3,k5,hr,Bb,hd,hdr];refine X7 i1 (by repeat (first | exact trivial | refine⟨.inl (by rfl),?_⟩ | refine⟨by rfl,?_⟩ | refine⟨.inr ⟨by rfl,by rfl⟩,?_⟩)) (by repeat (first | exact trivial | refine⟨.inl (by rfl),?_⟩ | refine⟨by rfl,?_⟩ | refine⟨.inr ⟨by rfl,by rfl⟩,?_⟩ | refine⟨.inr ⟨by(first | exact Hq rfl rfl | exact Ds rfl ⟨_,_,by assumption,by rfl⟩ | exact Ds rfl ⟨_,_,Br (by assumption),by rfl⟩ | exact Dt (by assumption) rfl (by rfl) | exact Dt (Br (by assumption)) rfl (by rfl)),by(first | exact Hq rfl rfl | exact Ds rfl ⟨_,_,by assumption,by rfl⟩ | exact Ds rfl ⟨_,_,Br (by assumption),by rfl⟩ | exact Dt (by assumption) rfl (by rfl) | exact Dt (Br (by assumption)) rfl (by rfl))⟩,?_⟩)) ?_;simp only[go_sem]
  cases tx<;>cases z1<;>cases ao
  all_goals
   simp only[go_sem,Int.reduceBEq,k3,k5,hr,Ap,Av]
   first
    | exact(Fo true).elim fun _ ⟨nq,r1,er⟩=>by subst er;exact Ad nq (by simp only[go_sem]) (by simp only[go_sem];exact fin _)
    | exact(Fo false).elim fun _ ⟨nq,r1,er⟩=>by subst er;exact Ad nq (by simp only[go_sem]) (by simp only[go_sem];exact fin _)
 have o9:(op==9)=false:=by simp[o9]
 by_cases o10:op=10
 ·subst o10;by_cases z5:r55=0;rotate_left
  ·have y5:(r55==0)=false:=by simp[z5]
   simp only[go_sem,Int.reduceBEq,k3,k5,hr];refine Ad w55 (by simp only[go_sem]) ?_;simp only[go_sem,Int.reduceBEq,k3,k5,hr,y5,bne,Av];exact fin _
  have y5:(r55==0)=true:=by simp[z5]
  obtain⟨i,d,di,hd,hil⟩:=Xv (d55 rfl rfl z5)
  rw[di]at dat
  have hdr:d.row=[.int .i64 d.kind,.int .i64 d.line,.str d.nm,.int .i64 d.size,.int .i64 d.init,.str d.on]:=rfl;obtain⟨_,i1,z1,rfl⟩:=Mk h1 (by omega) 4 4 d.on;simp only[go_sem,Int.reduceBEq,k3,k5,hr];refine Ad w55 (by simp only[go_sem]) ?_;simp only[go_sem,Int.reduceBEq,k3,k5,hr,y5,bne,Ap];refine Ag (by kernel_rfl) ?_;simp only[go_sem,Int.reduceBEq,k3,k5,hr];refine Bf dat (by simp only[go_sem]) ?_;simp only[go_sem,Int.reduceBEq,k3,k5,hr,Bb,hd,hdr];refine X7 i1 (by repeat (first | exact trivial | refine⟨.inl (by rfl),?_⟩ | refine⟨by rfl,?_⟩ | refine⟨.inr ⟨by rfl,by rfl⟩,?_⟩)) (by repeat (first | exact trivial | refine⟨.inl (by rfl),?_⟩ | refine⟨by rfl,?_⟩ | refine⟨.inr ⟨by rfl,by rfl⟩,?_⟩ | refine⟨.inr ⟨by(first | exact Hq rfl rfl | exact Ds rfl ⟨_,_,by assumption,by rfl⟩ | exact Ds rfl ⟨_,_,Br (by assumption),by rfl⟩ | exact Dt (by assumption) rfl (by rfl) | exact Dt (Br (by assumption)) rfl (by rfl)),by(first | exact Hq rfl rfl | exact Ds rfl ⟨_,_,by assumption,by rfl⟩ | exact Ds rfl ⟨_,_,Br (by assumption),by rfl⟩ | exact Dt (by assumption) rfl (by rfl) | exact Dt (Br (by assumption)) rfl (by rfl))⟩,?_⟩)) ?_;simp only[go_sem]
  cases tx<;>cases z1<;>cases ao
  all_goals
   simp only[go_sem,Int.reduceBEq,k3,k5,hr,Ap,Av]
   first
    | exact(Fo true).elim fun _ ⟨nq,r1,er⟩=>by subst er;exact Ad nq (by simp only[go_sem]) (by simp only[go_sem];exact fin _)
    | exact(Fo false).elim fun _ ⟨nq,r1,er⟩=>by subst er;exact Ad nq (by simp only[go_sem]) (by simp only[go_sem];exact fin _)
 have o10:(op==10)=false:=by simp[o10]
 by_cases o11:op=11
 ·subst o11;by_cases z5:r55=0;rotate_left
  ·have y5:(r55==0)=false:=by simp[z5]
   simp only[go_sem,Int.reduceBEq,k3,k5,hr];refine Ad w55 (by simp only[go_sem]) ?_;simp only[go_sem,Int.reduceBEq,k3,k5,hr,y5,bne,Av];exact fin _
  have y5:(r55==0)=true:=by simp[z5]
  obtain⟨i,d,di,hd,hil⟩:=Xv (d55 rfl rfl z5)
  rw[di]at dat
  have hdr:d.row=[.int .i64 d.kind,.int .i64 d.line,.str d.nm,.int .i64 d.size,.int .i64 d.init,.str d.on]:=rfl;obtain⟨_,i1,z1,rfl⟩:=Mk h1 (by omega) 4 4 d.on;simp only[go_sem,Int.reduceBEq,k3,k5,hr];refine Ad w55 (by simp only[go_sem]) ?_;simp only[go_sem,Int.reduceBEq,k3,k5,hr,y5,bne,Ap];refine Ag (by kernel_rfl) ?_;simp only[go_sem,Int.reduceBEq,k3,k5,hr];refine Bf dat (by simp only[go_sem]) ?_;simp only[go_sem,Int.reduceBEq,k3,k5,hr,Bb,hd,hdr];refine X7 i1 (by repeat (first | exact trivial | refine⟨.inl (by rfl),?_⟩ | refine⟨by rfl,?_⟩ | refine⟨.inr ⟨by rfl,by rfl⟩,?_⟩)) (by repeat (first | exact trivial | refine⟨.inl (by rfl),?_⟩ | refine⟨by rfl,?_⟩ | refine⟨.inr ⟨by rfl,by rfl⟩,?_⟩ | refine⟨.inr ⟨by(first | exact Hq rfl rfl | exact Ds rfl ⟨_,_,by assumption,by rfl⟩ | exact Ds rfl ⟨_,_,Br (by assumption),by rfl⟩ | exact Dt (by assumption) rfl (by rfl) | exact Dt (Br (by assumption)) rfl (by rfl)),by(first | exact Hq rfl rfl | exact Ds rfl ⟨_,_,by assumption,by rfl⟩ | exact Ds rfl ⟨_,_,Br (by assumption),by rfl⟩ | exact Dt (by assumption) rfl (by rfl) | exact Dt (Br (by assumption)) rfl (by rfl))⟩,?_⟩)) ?_;simp only[go_sem]
  cases tx<;>cases z1<;>cases ao
  all_goals
   simp only[go_sem,Int.reduceBEq,k3,k5,hr,Ap,Av]
   first
    | exact(Fo true).elim fun _ ⟨nq,r1,er⟩=>by subst er;exact Ad nq (by simp only[go_sem]) (by simp only[go_sem];exact fin _)
    | exact(Fo false).elim fun _ ⟨nq,r1,er⟩=>by subst er;exact Ad nq (by simp only[go_sem]) (by simp only[go_sem];exact fin _)
 have o11:(op==11)=false:=by simp[o11]
 by_cases o12:op=12
 ·subst o12;by_cases z7:r77=0;rotate_left
  ·have y7:(r77==0)=false:=by simp[z7]
   simp only[go_sem,Int.reduceBEq,k3,k5,hr];refine Ad w77 (by simp only[go_sem]) ?_;simp only[go_sem,Int.reduceBEq,k3,k5,hr,y7,bne,Av];exact fin _
  have y7:(r77==0)=true:=by simp[z7]
  simp only[go_sem,Int.reduceBEq,k3,k5,hr];refine Ad w77 (by simp only[go_sem]) ?_;simp only[go_sem,Int.reduceBEq,k3,k5,hr,y7,bne,Ap];refine Ad tat (by simp only[go_sem]) ?_;by_cases bad:tx=true\/ao=true\/lp=true\/Bk (fun d:Tp=>d.nm==nm) p.thrs=th\/Bk (fun d:Tp=>d.nm==nm) p.thrs=0
  ·by_cases b1:Bk (fun d:Tp=>d.nm==nm) p.thrs=th<;>by_cases b2:Bk (fun d:Tp=>d.nm==nm) p.thrs=0<;>cases tx<;>cases ao<;>cases lp
   all_goals first | (exfalso;simp[b1,b2]at bad;done) | skip
   all_goals
    first | have y1:(Bk (fun d:Tp=>d.nm==nm) p.thrs==th)=true:=by simp[b1];done | have y1:(Bk (fun d:Tp=>d.nm==nm) p.thrs==th)=false:=by simp[b1];done
    first | have y2:(Bk (fun d:Tp=>d.nm==nm) p.thrs==0)=true:=by simp[b2];done | have y2:(Bk (fun d:Tp=>d.nm==nm) p.thrs==0)=false:=by simp[b2];done
    simp only[go_sem,Int.reduceBEq,k3,k5,hr,y1,y2];exact fin _
  simp only[not_or,Wd]at bad;obtain⟨rfl,rfl,rfl,b1,b2⟩:=bad;have y1:(Bk (fun d:Tp=>d.nm==nm) p.thrs==th)=false:=by simp[b1]
  have y2:(Bk (fun d:Tp=>d.nm==nm) p.thrs==0)=false:=by simp[b2]
  simp only[go_sem,Int.reduceBEq,k3,k5,hr,y1,y2];obtain⟨z,hov⟩:=Ade h1.s;have hat:=Rl z 0 S nm (by omega);refine Ag (by kernel_rfl) ?_;simp only[go_sem,Int.reduceBEq,k3,k5,hr];refine Acb (.cons hov (.cons (Ig rfl) .nil)) hat rfl ?_;by_cases c3:0<=Bk (·==nm) S
  ·have f3:(0<=Bk (·==nm) S)=True:=eq_true c3;simp only[go_sem,Int.reduceBEq,k3,k5,hr,f3,ge_iff_le];exact fin _
  have f3:(0<=Bk (·==nm) S)=False:=eq_false c3;simp only[go_sem,Int.reduceBEq,k3,k5,hr,f3,ge_iff_le];obtain⟨u',s2,ha,hcell,r2,h2,f2⟩:=A22 h1 nm (by simp;omega);obtain⟨hcc,hca⟩:=Lr hcell;refine Ag (by kernel_rfl) ?_;simp only[go_sem,Int.reduceBEq,k3,k5,hr,ha];refine Ay ?_;simp only[go_sem,Int.reduceBEq,k3,k5,hr,r2,hcc,hca];refine Ay ?_;simp only[go_sem];exact⟨_,rfl,⟨rfl,rfl⟩,⟨Cj f1.1 f2.1,h2.cl⟩,_,rfl,_,_,S++[nm],T,by rw[Fb];exact h2,Ee f1 f2,by simp,by omega⟩
 have o12:(op==12)=false:=by simp[o12]
 by_cases o13:op=13
 ·subst o13;cases tx;rotate_left
  ·obtain⟨_,nq,r1,rfl⟩:=Fo true;obtain⟨_,oq,r2,rfl⟩:=Fh r77 r1;simp only[go_sem,Int.reduceBEq,k3,k5,hr];refine Ad w77 (by simp only[go_sem]) ?_;simp only[go_sem,Int.reduceBEq,k3,k5,hr];refine Ad nq (by simp only[go_sem]) ?_;simp only[go_sem];refine Ad oq (by simp only[go_sem]) ?_;simp only[go_sem];exact fin _
  cases ao;rotate_left
  ·obtain⟨_,nq,r1,rfl⟩:=Fo true;obtain⟨_,oq,r2,rfl⟩:=Fh r77 r1;simp only[go_sem,Int.reduceBEq,k3,k5,hr];refine Ad w77 (by simp only[go_sem]) ?_;simp only[go_sem,Int.reduceBEq,k3,k5,hr];refine Ad nq (by simp only[go_sem]) ?_;simp only[go_sem];refine Ad oq (by simp only[go_sem]) ?_;simp only[go_sem];exact fin _
  obtain⟨_,nq,r1,rfl⟩:=Fo (Bk (fun d:Tp=>d.nm==nm) p.thrs==th);obtain⟨_,oq,r2,rfl⟩:=Fh r77 r1;simp only[go_sem,Int.reduceBEq,k3,k5,hr];refine Ad w77 (by simp only[go_sem]) ?_;simp only[go_sem,Int.reduceBEq,k3,k5,hr];refine Ad tat (by simp only[go_sem]) ?_;simp only[go_sem,Int.reduceBEq,k3,k5,hr];refine Ad nq (by simp only[go_sem]) ?_;simp only[go_sem];refine Ad oq (by simp only[go_sem]) ?_;simp only[go_sem];exact fin _
 have o13:(op==13)=false:=by simp[o13]
 by_cases o14:op=14
 ·subst o14;cases tx
  ·obtain⟨_,nq,r1,rfl⟩:=Fo lp;obtain⟨_,oq,r2,rfl⟩:=Fh r66 r1;simp only[go_sem,Int.reduceBEq,k3,k5,hr];refine Ad w66 (by simp only[go_sem]) ?_;simp only[go_sem,Int.reduceBEq,k3,k5,hr];refine Ad nq (by simp only[go_sem]) ?_;simp only[go_sem];refine Ad oq (by simp only[go_sem]) ?_;cases y:(r2==0)
   ·simp only[go_sem,Int.reduceBEq,k3,k5,hr,y];refine Ag (by kernel_rfl) ?_;simp only[go_sem,Int.reduceBEq,k3,k5,hr,y];obtain⟨u',s2,ha,hcell,r2',h2,f2⟩:=Sk h1 nm (by simp;omega);obtain⟨hcc,hca⟩:=Lr hcell;obtain⟨_,oq',r3,rfl⟩:=Fh r2 e0;have k3':(s2.set w (.row [SL p.dz p.dt (p.decls.map Dp.row),SL p.tz p.tt (p.thrs.map Tp.row),.int .i64 th,uA,uS,u'] 155 0 0))[n]?=some (.row [.int .i64 14,.int .i64 line,.str nm,.str arg,SL iz it (idx.map Xp.row),.int .i64 ex.op,.int .i64 ex.n,.str ex.nm,SL ex.z ex.t (ex.l.map Xp.row),SL bz bt (body.map Sp.row),SL ez et (els.map Sp.row)] 105 0 0):=by rw[f2.2.1 n (Ar.1 k3).1 (hnf n hn)];exact k3
    have k5':(s2.set w (.row [SL p.dz p.dt (p.decls.map Dp.row),SL p.tz p.tt (p.thrs.map Tp.row),.int .i64 th,uA,uS,u'] 155 0 0))[m]?=some (.row [SL p.dz p.dt (p.decls.map Dp.row),SL p.tz p.tt (p.thrs.map Tp.row)] 27 0 0):=by rw[f2.2.1 m (Ar.1 k5).1 (hnf m hm)];exact k5
    refine Ag (by kernel_rfl) ?_;simp only[go_sem,Int.reduceBEq,k3,k5,hr,ha];refine Ay ?_;simp only[go_sem,Int.reduceBEq,k3,k5,hr,r2',hcc,hca];refine Ay ?_;simp only[go_sem,k3',k5'];refine Ad q0 (by simp only[go_sem]) ?_;simp only[go_sem];refine Ad oq' (by simp only[go_sem]) ?_;simp only[go_sem];exact⟨_,rfl,⟨rfl,rfl⟩,⟨Cj f1.1 f2.1,h2.cl⟩,_,rfl,_,_,S,T++[nm],by rw[Fb];exact h2,Ee f1 f2,by omega,by simp⟩
   ·obtain⟨z,hov⟩:=Ade h1.t;have hat:=Rl z 0 T nm (by omega);simp only[go_sem];refine Ag (by kernel_rfl) ?_;simp only[go_sem,Int.reduceBEq,k3,k5,hr,y];refine Acb (.cons hov (.cons (Ig rfl) .nil)) hat rfl ?_;by_cases c3:0<=Bk (·==nm) T
    ·have f3:(0<=Bk (·==nm) T)=True:=eq_true c3;simp only[go_sem,Int.reduceBEq,k3,k5,hr,f3,ge_iff_le];obtain⟨u',s2,ha,hcell,r2',h2,f2⟩:=Sk h1 nm (by simp;omega);obtain⟨hcc,hca⟩:=Lr hcell;obtain⟨_,oq',r3,rfl⟩:=Fh 8 e0;have k3':(s2.set w (.row [SL p.dz p.dt (p.decls.map Dp.row),SL p.tz p.tt (p.thrs.map Tp.row),.int .i64 th,uA,uS,u'] 155 0 0))[n]?=some (.row [.int .i64 14,.int .i64 line,.str nm,.str arg,SL iz it (idx.map Xp.row),.int .i64 ex.op,.int .i64 ex.n,.str ex.nm,SL ex.z ex.t (ex.l.map Xp.row),SL bz bt (body.map Sp.row),SL ez et (els.map Sp.row)] 105 0 0):=by rw[f2.2.1 n (Ar.1 k3).1 (hnf n hn)];exact k3
     have k5':(s2.set w (.row [SL p.dz p.dt (p.decls.map Dp.row),SL p.tz p.tt (p.thrs.map Tp.row),.int .i64 th,uA,uS,u'] 155 0 0))[m]?=some (.row [SL p.dz p.dt (p.decls.map Dp.row),SL p.tz p.tt (p.thrs.map Tp.row)] 27 0 0):=by rw[f2.2.1 m (Ar.1 k5).1 (hnf m hm)];exact k5
     refine Ag (by kernel_rfl) ?_;simp only[go_sem,Int.reduceBEq,k3,k5,hr,ha];refine Ay ?_;simp only[go_sem,Int.reduceBEq,k3,k5,hr,r2',hcc,hca];refine Ay ?_;simp only[go_sem,k3',k5'];refine Ad q0 (by simp only[go_sem]) ?_;simp only[go_sem];refine Ad oq' (by simp only[go_sem]) ?_;simp only[go_sem];exact⟨_,rfl,⟨rfl,rfl⟩,⟨Cj f1.1 f2.1,h2.cl⟩,_,rfl,_,_,S,T++[nm],by rw[Fb];exact h2,Ee f1 f2,by omega,by simp⟩
    ·have f3:(0<=Bk (·==nm) T)=False:=eq_false c3;simp only[go_sem,Int.reduceBEq,k3,k5,hr,f3,ge_iff_le];obtain⟨u',s2,ha,hcell,r2',h2,f2⟩:=Sk h1 nm (by simp;omega);obtain⟨hcc,hca⟩:=Lr hcell;obtain⟨_,oq',r3,rfl⟩:=Fh r2 e0;have k3':(s2.set w (.row [SL p.dz p.dt (p.decls.map Dp.row),SL p.tz p.tt (p.thrs.map Tp.row),.int .i64 th,uA,uS,u'] 155 0 0))[n]?=some (.row [.int .i64 14,.int .i64 line,.str nm,.str arg,SL iz it (idx.map Xp.row),.int .i64 ex.op,.int .i64 ex.n,.str ex.nm,SL ex.z ex.t (ex.l.map Xp.row),SL bz bt (body.map Sp.row),SL ez et (els.map Sp.row)] 105 0 0):=by rw[f2.2.1 n (Ar.1 k3).1 (hnf n hn)];exact k3
     have k5':(s2.set w (.row [SL p.dz p.dt (p.decls.map Dp.row),SL p.tz p.tt (p.thrs.map Tp.row),.int .i64 th,uA,uS,u'] 155 0 0))[m]?=some (.row [SL p.dz p.dt (p.decls.map Dp.row),SL p.tz p.tt (p.thrs.map Tp.row)] 27 0 0):=by rw[f2.2.1 m (Ar.1 k5).1 (hnf m hm)];exact k5
     refine Ag (by kernel_rfl) ?_;simp only[go_sem,Int.reduceBEq,k3,k5,hr,ha];refine Ay ?_;simp only[go_sem,Int.reduceBEq,k3,k5,hr,r2',hcc,hca];refine Ay ?_;simp only[go_sem,k3',k5'];refine Ad q0 (by simp only[go_sem]) ?_;simp only[go_sem];refine Ad oq' (by simp only[go_sem]) ?_;simp only[go_sem];exact⟨_,rfl,⟨rfl,rfl⟩,⟨Cj f1.1 f2.1,h2.cl⟩,_,rfl,_,_,S,T++[nm],by rw[Fb];exact h2,Ee f1 f2,by omega,by simp⟩
  ·obtain⟨_,nq,r1,rfl⟩:=Fo true;obtain⟨_,oq,r2,rfl⟩:=Fh r66 r1;simp only[go_sem,Int.reduceBEq,k3,k5,hr];refine Ad w66 (by simp only[go_sem]) ?_;simp only[go_sem,Int.reduceBEq,k3,k5,hr];refine Ad nq (by simp only[go_sem]) ?_;simp only[go_sem];refine Ad oq (by simp only[go_sem]) ?_;cases y:(r2==0)
   ·simp only[go_sem,Int.reduceBEq,k3,k5,hr,y];refine Ag (by kernel_rfl) ?_;simp only[go_sem,Int.reduceBEq,k3,k5,hr,y];obtain⟨u',s2,ha,hcell,r2',h2,f2⟩:=Sk h1 nm (by simp;omega);obtain⟨hcc,hca⟩:=Lr hcell;obtain⟨_,oq',r3,rfl⟩:=Fh r2 e0;have k3':(s2.set w (.row [SL p.dz p.dt (p.decls.map Dp.row),SL p.tz p.tt (p.thrs.map Tp.row),.int .i64 th,uA,uS,u'] 155 0 0))[n]?=some (.row [.int .i64 14,.int .i64 line,.str nm,.str arg,SL iz it (idx.map Xp.row),.int .i64 ex.op,.int .i64 ex.n,.str ex.nm,SL ex.z ex.t (ex.l.map Xp.row),SL bz bt (body.map Sp.row),SL ez et (els.map Sp.row)] 105 0 0):=by rw[f2.2.1 n (Ar.1 k3).1 (hnf n hn)];exact k3
    have k5':(s2.set w (.row [SL p.dz p.dt (p.decls.map Dp.row),SL p.tz p.tt (p.thrs.map Tp.row),.int .i64 th,uA,uS,u'] 155 0 0))[m]?=some (.row [SL p.dz p.dt (p.decls.map Dp.row),SL p.tz p.tt (p.thrs.map Tp.row)] 27 0 0):=by rw[f2.2.1 m (Ar.1 k5).1 (hnf m hm)];exact k5
    refine Ag (by kernel_rfl) ?_;simp only[go_sem,Int.reduceBEq,k3,k5,hr,ha];refine Ay ?_;simp only[go_sem,Int.reduceBEq,k3,k5,hr,r2',hcc,hca];refine Ay ?_;simp only[go_sem,k3',k5'];refine Ad q0 (by simp only[go_sem]) ?_;simp only[go_sem];refine Ad oq' (by simp only[go_sem]) ?_;simp only[go_sem];exact⟨_,rfl,⟨rfl,rfl⟩,⟨Cj f1.1 f2.1,h2.cl⟩,_,rfl,_,_,S,T++[nm],by rw[Fb];exact h2,Ee f1 f2,by omega,by simp⟩
   ·obtain⟨z,hov⟩:=Ade h1.t;have hat:=Rl z 0 T nm (by omega);simp only[go_sem];refine Ag (by kernel_rfl) ?_;simp only[go_sem,Int.reduceBEq,k3,k5,hr,y];refine Acb (.cons hov (.cons (Ig rfl) .nil)) hat rfl ?_;by_cases c3:0<=Bk (·==nm) T
    ·have f3:(0<=Bk (·==nm) T)=True:=eq_true c3;simp only[go_sem,Int.reduceBEq,k3,k5,hr,f3,ge_iff_le];obtain⟨u',s2,ha,hcell,r2',h2,f2⟩:=Sk h1 nm (by simp;omega);obtain⟨hcc,hca⟩:=Lr hcell;obtain⟨_,oq',r3,rfl⟩:=Fh 8 e0;have k3':(s2.set w (.row [SL p.dz p.dt (p.decls.map Dp.row),SL p.tz p.tt (p.thrs.map Tp.row),.int .i64 th,uA,uS,u'] 155 0 0))[n]?=some (.row [.int .i64 14,.int .i64 line,.str nm,.str arg,SL iz it (idx.map Xp.row),.int .i64 ex.op,.int .i64 ex.n,.str ex.nm,SL ex.z ex.t (ex.l.map Xp.row),SL bz bt (body.map Sp.row),SL ez et (els.map Sp.row)] 105 0 0):=by rw[f2.2.1 n (Ar.1 k3).1 (hnf n hn)];exact k3
     have k5':(s2.set w (.row [SL p.dz p.dt (p.decls.map Dp.row),SL p.tz p.tt (p.thrs.map Tp.row),.int .i64 th,uA,uS,u'] 155 0 0))[m]?=some (.row [SL p.dz p.dt (p.decls.map Dp.row),SL p.tz p.tt (p.thrs.map Tp.row)] 27 0 0):=by rw[f2.2.1 m (Ar.1 k5).1 (hnf m hm)];exact k5
     refine Ag (by kernel_rfl) ?_;simp only[go_sem,Int.reduceBEq,k3,k5,hr,ha];refine Ay ?_;simp only[go_sem,Int.reduceBEq,k3,k5,hr,r2',hcc,hca];refine Ay ?_;simp only[go_sem,k3',k5'];refine Ad q0 (by simp only[go_sem]) ?_;simp only[go_sem];refine Ad oq' (by simp only[go_sem]) ?_;simp only[go_sem];exact⟨_,rfl,⟨rfl,rfl⟩,⟨Cj f1.1 f2.1,h2.cl⟩,_,rfl,_,_,S,T++[nm],by rw[Fb];exact h2,Ee f1 f2,by omega,by simp⟩
    ·have f3:(0<=Bk (·==nm) T)=False:=eq_false c3;simp only[go_sem,Int.reduceBEq,k3,k5,hr,f3,ge_iff_le];obtain⟨u',s2,ha,hcell,r2',h2,f2⟩:=Sk h1 nm (by simp;omega);obtain⟨hcc,hca⟩:=Lr hcell;obtain⟨_,oq',r3,rfl⟩:=Fh r2 e0;have k3':(s2.set w (.row [SL p.dz p.dt (p.decls.map Dp.row),SL p.tz p.tt (p.thrs.map Tp.row),.int .i64 th,uA,uS,u'] 155 0 0))[n]?=some (.row [.int .i64 14,.int .i64 line,.str nm,.str arg,SL iz it (idx.map Xp.row),.int .i64 ex.op,.int .i64 ex.n,.str ex.nm,SL ex.z ex.t (ex.l.map Xp.row),SL bz bt (body.map Sp.row),SL ez et (els.map Sp.row)] 105 0 0):=by rw[f2.2.1 n (Ar.1 k3).1 (hnf n hn)];exact k3
     have k5':(s2.set w (.row [SL p.dz p.dt (p.decls.map Dp.row),SL p.tz p.tt (p.thrs.map Tp.row),.int .i64 th,uA,uS,u'] 155 0 0))[m]?=some (.row [SL p.dz p.dt (p.decls.map Dp.row),SL p.tz p.tt (p.thrs.map Tp.row)] 27 0 0):=by rw[f2.2.1 m (Ar.1 k5).1 (hnf m hm)];exact k5
     refine Ag (by kernel_rfl) ?_;simp only[go_sem,Int.reduceBEq,k3,k5,hr,ha];refine Ay ?_;simp only[go_sem,Int.reduceBEq,k3,k5,hr,r2',hcc,hca];refine Ay ?_;simp only[go_sem,k3',k5'];refine Ad q0 (by simp only[go_sem]) ?_;simp only[go_sem];refine Ad oq' (by simp only[go_sem]) ?_;simp only[go_sem];exact⟨_,rfl,⟨rfl,rfl⟩,⟨Cj f1.1 f2.1,h2.cl⟩,_,rfl,_,_,S,T++[nm],by rw[Fb];exact h2,Ee f1 f2,by omega,by simp⟩
 have o14:(op==14)=false:=by simp[o14]
 obtain⟨_,nq,r1,rfl⟩:=Fo tx;obtain⟨_,oq,r2,rfl⟩:=Fh s66 r1;obtain⟨_,oq2,r3,rfl⟩:=Fh r88 r2;simp only[go_sem,Int.reduceBEq,k3,k5,hr,o1,o2,o3,o4,o5,o6,o7,o8,o9,o10,o11,o12,o13,o14];refine Ag (by kernel_rfl) ?_;simp only[go_sem,Int.reduceBEq,k3,k5,hr];refine Bf w88 (by simp only[go_sem]) ?_;simp only[go_sem,Int.reduceBEq,k3,k5,hr];refine Bf a66 (by simp only[go_sem]) ?_;simp only[go_sem,Int.reduceBEq,k3,k5,hr];refine Bf nq (by simp only[go_sem]) ?_;simp only[go_sem,Int.reduceBEq,k3,k5,hr];refine Bf oq (by simp only[go_sem]) ?_;simp only[go_sem,Int.reduceBEq,k3,k5,hr];refine Bf oq2 (by simp only[go_sem]) ?_;simp only[go_sem];exact fin _
