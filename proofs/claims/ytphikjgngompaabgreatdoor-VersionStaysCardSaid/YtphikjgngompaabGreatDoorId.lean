/- Walks: one statement as the static rules see it. -/
import Derived.Test.YtphikjgngompaabGreatDoorIb
set_option linter.all false
namespace Go.Proofs.YtphikjgngompaabGreatDoor.KM
open Go
def rdP{s:St}{ob k off n x:Nat}{cs vs:List V}{e:Env}(q:s[ob]?=some (.row cs k 0 0))(he:e.get x=.ptr ob 0 off)(hl:off+n<=cs.length)(hv:(cs.drop off).take n=vs):Ad (.load n false (.t x)) e s=some (.agg vs,s):=by
 simp only[Ad,Ac,he,I4,q];rw[if_pos ⟨trivial,hl⟩,hv];rfl
def P8{v:V}(h:v.cellB=true):v.cells=[v]/\[v].all V.cellB=true:=⟨by cases v<;>simp[V.cellB]at h<;>rfl,by grind⟩
def Anx{σ:St}{u:V}{L:List (List UInt8)}(h:GS σ 1 9 u (L.map fun x=>[V.str x])):∃ z,OV σ u (SL z 0 (L.map fun x=>[V.str x])):=by
 grind[Ank,Vl,Kz]
def A1z(w:Nat)(p:Gp)(th:Int)(uA:V)(A:List (List V))(S T:List (List UInt8))(σ:St)(v:V)(σ':St):Prop:=∃ e:Int,v=iV e/\∃ (vS vT:V) (S' T':List (List UInt8)),WK σ' w p th uA vS vT A (S'.map fun x=>[V.str x]) (T'.map fun x=>[V.str x])/\FW w σ σ'/\S'.length<=S.length+1/\T'.length<=T.length+1
set_option maxHeartbeats 8000000 in
def Bkz{σ:St}{w:Nat}{p:Gp}{th:Int}{uA uS uT:V}{X:List Sp}{S T:List (List UInt8)}(h:WK σ w p th uA uS uT (X.map Sp.row) (S.map fun x=>[V.str x]) (T.map fun x=>[V.str x]))(hp:LnG p)(hX:X.length<=1000000)(hS:S.length<=1000000)(hT:T.length<=1000000)(x:Sp)(hx:C3 x.row<=1000000000):
  ∃ v σ',Th TT PT 117 [.ptr w 0 0,.agg x.row] σ v σ'/\A1z w p th uA (X.map Sp.row) S T σ v σ':=by
 obtain⟨op,line,nm,arg,iz,it,idx,ex,bz,bt,body,ez,et,els⟩:=x;have qY:=hx;rw[N9]at qY;simp only at qY;have qy:=Hc ⟨op,line,nm,arg,iz,it,idx,ex,bz,bt,body,ez,et,els⟩;rw[Fl]at qy ⊢;simp only at qy ⊢;obtain⟨_,jy,jT,rfl,-⟩:=O9 hp th nm 8 1;obtain⟨_,jx,jR,rfl,-⟩:=O9 hp th nm 2 2;obtain⟨_,jg,ju,rfl,-⟩:=O9 hp th nm 3 3;obtain⟨_,qI,qS,rfl,-⟩:=O9 hp th nm 4 4;obtain⟨_,qv,qq,rfl,qU⟩:=O9 hp th nm 5 5;obtain⟨_,qA,qz,rfl,-⟩:=O9 hp th nm 7 7;obtain⟨_,ji,jv,rfl,-⟩:=O9 hp th nm 6 6;obtain⟨_,jz,jU,rfl,-⟩:=O9 hp th nm 8 8;obtain⟨_,jk,jV,rfl,-⟩:=O9 hp th arg 6 6;obtain⟨_,q0,e0,rfl⟩:=Auk hp th ex AA;have jw:=Agg p.tz p.tt p.thrs nm (by have:=hp.t;omega);have qw:=X9 p.dz p.dt p.decls nm (by have:=hp.d;omega);rw[Wb]at jy jx jg qI qv qA ji jz jk q0;rw[Bi]at q0;have qG:=Ahc p;rw[Wb]at qG;have hw:=Ub h;refine Alx T117 rfl ?_;refine F0 (fun e s=>e=[(0,.ptr w 0 0),(3,.ptr σ.length 0 0)]/\s=σ++[sO op line nm arg iz it idx ex.op ex.n ex.nm ex.z ex.t ex.l bz bt body ez et els]) (fun k' hk=>?_) ?_
 .simp only[go_sem];exact hk _ _ ⟨rfl,rfl⟩
 rintro e s ⟨rfl,rfl⟩;refine F0 (fun e s=>∃ n m:Nat,e=[(0,.ptr w 0 0),(3,.ptr n 0 0),(5,.ptr m 0 0),(6,iV th)]/\(WK s w p th uA uS uT (X.map Sp.row) (S.map fun x=>[V.str x]) (T.map fun x=>[V.str x])/\FW w σ s)/\(σ.length<=n/\σ.length<=m)/\s[n]?=some (sO op line nm arg iz it idx ex.op ex.n ex.nm ex.z ex.t ex.l bz bt body ez et els)/\s[m]?=some (gO p)) (fun k' hk=>?_) ?_
 .have qK:=h.row;have hr:=By (l:=[sO op line nm arg iz it idx ex.op ex.n ex.nm ex.z ex.t ex.l bz bt body ez et els]) h.row;have jC:Cl (σ++[sO op line nm arg iz it idx ex.op ex.n ex.nm ex.z ex.t ex.l bz bt body ez et els]):=Jl h.cl qy;have jD:Cl (σ++[sO op line nm arg iz it idx ex.op ex.n ex.nm ex.z ex.t ex.l bz bt body ez et els]++[gO p]):=Jl jC qG;rw[Bt]at jD;refine Af AD ?_;simp only[go_sem,hr];refine Bb (h2:=⟨.inr ⟨rd1 hr rfl rfl,rd1 (By qK) rfl rfl⟩,.inr ⟨rdP hr rfl (Nat.le_of_ble_eq_true rfl) rfl,rdP (By qK) rfl (Nat.le_of_ble_eq_true rfl) rfl⟩,trivial⟩) ?_;simp only[go_sem];refine Bb (h2:=⟨.inr ⟨rd1 (By qK) rfl rfl,rd1 (By qK) rfl rfl⟩,.inl rfl,trivial⟩) ?_;simp only[go_sem];refine hk _ _ ⟨σ.length,σ.length+1,by grind,?_,?_,?_,?_⟩
  .grind[Aw7,Alj]
  .omega
  .simp
  .simp
 rintro e s ⟨n,m,rfl,⟨h1,f1⟩,⟨hn,hm⟩,k3,k5⟩;have hr:=h1.row;refine F0 (fun e s'=>s'=s/\∃ tx,e=[(0,.ptr w 0 0),(3,.ptr n 0 0),(5,.ptr m 0 0),(6,iV th),(7,.bool tx)]) (fun k' hk=>?_) ?_
 .obtain⟨_,i1,z1,rfl⟩:=Rc h1 AA 7 7 [];simp only[go_sem];refine Ca i1 ?_;simp only[go_sem];exact hk _ _ ⟨rfl,_,rfl⟩
 rintro e s' ⟨qi,tx,rfl⟩;obtain rfl:=qi.symm;refine F0 (fun e s'=>s'=s/\∃ ao,e=[(0,.ptr w 0 0),(3,.ptr n 0 0),(5,.ptr m 0 0),(6,iV th),(7,.bool tx),(8,.bool ao)]) (fun k' hk=>?_) ?_
 .obtain⟨_,i1,z1,rfl⟩:=Rc h1 AA 8 8 [];simp only[go_sem];refine Ca i1 ?_;simp only[go_sem];exact hk _ _ ⟨rfl,_,rfl⟩
 rintro e s' ⟨qi,ao,rfl⟩;obtain rfl:=qi.symm;refine F0 (fun e s'=>s'=s/\∃ lp,e=[(0,.ptr w 0 0),(3,.ptr n 0 0),(5,.ptr m 0 0),(6,iV th),(7,.bool tx),(8,.bool ao),(9,.bool lp)]) (fun k' hk=>?_) ?_
 .obtain⟨_,i1,z1,rfl⟩:=Rc h1 AA 3 3 [];simp only[go_sem];refine Ca i1 ?_;simp only[go_sem];exact hk _ _ ⟨rfl,_,rfl⟩
 rintro e s' ⟨qi,lp,rfl⟩;obtain rfl:=qi.symm
 have qj:∀ j,σ.length<=j->j ∉ fp s w:=fun j hj hm=>by
  rw[Uc h1]at hm;have g1:=Uc h;simp only[Bp,Cu]at hm;rcases hm with rfl | hm | hm | hm
  .omega
  .have:=Cz h.a j hm;omega
  .have:=Cz h.s j hm;omega
  .have:=Cz h.t j hm;omega
 have qa:∀ r:Int,∃ v,some (iV r)=some v/\(Ci v=true/\v.refs=[])/\(σ.length<=s.length/\Cl s)/\A1z w p th uA (X.map Sp.row) S T σ v s:=fun r=>⟨_,rfl,⟨rfl,rfl⟩,⟨f1.1,h1.cl⟩,r,rfl,_,_,S,T,h1,f1,by omega,by omega⟩
 by_cases o1:op=1
 .subst o1
  cases idx with
  | nil=>
   obtain⟨_,oq,r2,rfl⟩:=G9 jT e0;simp only[go_sem,Int.reduceBEq,k3,k5,hr,B0,Dc];refine Af AD ?_;simp only[go_sem,Int.reduceBEq,k3,k5,hr];refine Bf jy AB ?_;simp only[go_sem,Int.reduceBEq,k3,k5,hr];refine Bf q0 AB ?_;simp only[go_sem,Int.reduceBEq,k3,k5,hr];refine Bf oq AB ?_;simp only[go_sem];exact qa _
  | cons a r=>
   have ka:=J9 (f:=Xp.row) (l:=a::r) (x:=a) AE;obtain⟨_,q1,e1,rfl⟩:=Auk hp th a AA;rw[Wb,Bi]at q1;have jG:((r.length:Int)+1==0)=false:=by simp;omega
   have ja:(((r.length+1:Nat):Int)==0)=false:=by simp;omega
   have jn:=Bi a;obtain⟨_,oq,r2,rfl⟩:=G9 e1 e0;obtain⟨_,jc,r3,rfl⟩:=G9 jR r2;simp only[go_sem,Int.reduceBEq,k3,k5,hr,Aw,An,Ar,jG,ja];refine Af AD ?_;simp only[go_sem,Int.reduceBEq,k3,k5,hr,Aw,Wq,jn];refine Bf jx AB ?_;simp only[go_sem,Int.reduceBEq,k3,k5,hr,Aw,Wq,jn];refine Bf q1 AB ?_;simp only[go_sem,Int.reduceBEq,k3,k5,hr];refine Bf q0 AB ?_;simp only[go_sem,Int.reduceBEq,k3,k5,hr];refine Bf oq AB ?_;simp only[go_sem,Int.reduceBEq,k3,k5,hr];refine Bf jc AB ?_;simp only[go_sem];exact qa _
 have o1:(op==1)=false:=by simp[o1]
 by_cases o2:op=2
 .subst o2;simp only[go_sem,Int.reduceBEq,k3,k5,hr];refine Ab q0 AB ?_;simp only[go_sem];exact qa _
 have o2:(op==2)=false:=by simp[o2]
 by_cases o3:op=3
 .subst o3;simp only[go_sem,Int.reduceBEq,k3,k5,hr];refine Ab q0 AB ?_;simp only[go_sem];exact qa _
 have o3:(op==3)=false:=by simp[o3]
 by_cases o4:op=4
 .subst o4;cases tx
  .obtain⟨_,i1,z1,rfl⟩:=Rc h1 AA 4 4 nm;obtain⟨_,nq,r1,rfl⟩:=Hj z1;obtain⟨_,oq,r2,rfl⟩:=G9 ju r1;simp only[go_sem,Int.reduceBEq,k3,k5,hr];refine Ab jg AB ?_;simp only[go_sem,Int.reduceBEq,k3,k5,hr];refine Ca i1 ?_;simp only[go_sem,Int.reduceBEq,k3,k5,hr];refine Ab nq AB ?_;simp only[go_sem];refine Ab oq AB ?_;simp only[go_sem];exact qa _
  .obtain⟨_,nq,r1,rfl⟩:=Hj true;obtain⟨_,oq,r2,rfl⟩:=G9 ju r1;simp only[go_sem,Int.reduceBEq,k3,k5,hr];refine Ab jg AB ?_;simp only[go_sem,Int.reduceBEq,k3,k5,hr];refine Ab nq AB ?_;simp only[go_sem];refine Ab oq AB ?_;simp only[go_sem];exact qa _
 have o4:(op==4)=false:=by simp[o4]
 by_cases o5:op=5
 .subst o5;cases tx
  .obtain⟨_,i1,z1,rfl⟩:=Rc h1 AA 5 6 nm;obtain⟨_,nq,r1,rfl⟩:=Hj z1;obtain⟨_,oq,r2,rfl⟩:=G9 qS r1;simp only[go_sem,Int.reduceBEq,k3,k5,hr];refine Ab qI AB ?_;simp only[go_sem,Int.reduceBEq,k3,k5,hr];refine Ca i1 ?_;simp only[go_sem,Int.reduceBEq,k3,k5,hr];refine Ab nq AB ?_;simp only[go_sem];refine Ab oq AB ?_;simp only[go_sem];exact qa _
  .obtain⟨_,nq,r1,rfl⟩:=Hj true;obtain⟨_,oq,r2,rfl⟩:=G9 qS r1;simp only[go_sem,Int.reduceBEq,k3,k5,hr];refine Ab qI AB ?_;simp only[go_sem,Int.reduceBEq,k3,k5,hr];refine Ab nq AB ?_;simp only[go_sem];refine Ab oq AB ?_;simp only[go_sem];exact qa _
 have o5:(op==5)=false:=by simp[o5]
 by_cases o6:op=6
 .subst o6;cases tx
  .obtain⟨_,i1,z1,rfl⟩:=Rc h1 AA 5 6 nm;obtain⟨_,nq,r1,rfl⟩:=Hj z1;obtain⟨_,oq,r2,rfl⟩:=G9 qS r1;simp only[go_sem,Int.reduceBEq,k3,k5,hr];refine Ab qI AB ?_;simp only[go_sem,Int.reduceBEq,k3,k5,hr];refine Ca i1 ?_;simp only[go_sem,Int.reduceBEq,k3,k5,hr];refine Ab nq AB ?_;simp only[go_sem];refine Ab oq AB ?_;simp only[go_sem];exact qa _
  .obtain⟨_,nq,r1,rfl⟩:=Hj true;obtain⟨_,oq,r2,rfl⟩:=G9 qS r1;simp only[go_sem,Int.reduceBEq,k3,k5,hr];refine Ab qI AB ?_;simp only[go_sem,Int.reduceBEq,k3,k5,hr];refine Ab nq AB ?_;simp only[go_sem];refine Ab oq AB ?_;simp only[go_sem];exact qa _
 have o6:(op==6)=false:=by simp[o6]
 by_cases o7:op=7
 .subst o7;obtain⟨_,nq,r1,rfl⟩:=Hj tx;simp only[go_sem,Int.reduceBEq,k3,k5,hr];refine Ab nq AB ?_;simp only[go_sem];exact qa _
 have o7:(op==7)=false:=by simp[o7]
 by_cases o8:op=8
 .subst o8;cases tx
  .obtain⟨_,nq,r1,rfl⟩:=Hj ao;simp only[go_sem,Int.reduceBEq,k3,k5,hr];refine Ab nq AB ?_;simp only[go_sem];exact qa _
  .obtain⟨_,nq,r1,rfl⟩:=Hj true;simp only[go_sem,Int.reduceBEq,k3,k5,hr];refine Ab nq AB ?_;simp only[go_sem];exact qa _
 have o8:(op==8)=false:=by simp[o8]
 by_cases o9:op=9
 .subst o9;by_cases z5:qq=0;rotate_left
  .have y5:(qq==0)=false:=by simp[z5]
   simp only[go_sem,Int.reduceBEq,k3,k5,hr];refine Ab qv AB ?_;simp only[go_sem,Int.reduceBEq,k3,k5,hr,y5,bne,A1];exact qa _
  have y5:(qq==0)=true:=by simp[z5]
  obtain⟨i,d,di,hd,jo⟩:=Afj (qU rfl rfl z5)
  rw[di]at qw
  have qD:d.row=[iV d.kind,iV d.line,.str d.nm,iV d.size,iV d.init,.str d.on]:=rfl;obtain⟨_,i1,z1,rfl⟩:=Rc h1 AA 4 4 d.on;simp only[go_sem,Int.reduceBEq,k3,k5,hr];refine Ab qv AB ?_;simp only[go_sem,Int.reduceBEq,k3,k5,hr,y5,bne,Ay];refine Af AD ?_;simp only[go_sem,Int.reduceBEq,k3,k5,hr];refine Bf qw AB ?_;simp only[go_sem,Int.reduceBEq,k3,k5,hr,Au,hd,qD];refine Abb i1 (by repeat (first | exact trivial | refine⟨.inl AK,?_⟩ | refine⟨by rfl,?_⟩ | refine⟨.inr ⟨by rfl,by rfl⟩,?_⟩)) (by repeat (first | exact trivial | refine⟨.inl AK,?_⟩ | refine⟨by rfl,?_⟩ | refine⟨.inr ⟨by rfl,by rfl⟩,?_⟩ | refine⟨.inr ⟨by(first | exact Lc rfl rfl | exact Ep rfl ⟨_,_,by assumption,by rfl⟩ | exact Ep rfl ⟨_,_,By AM,by rfl⟩ | exact Er AM rfl AK | exact Er (By AM) rfl AK),by(first | exact Lc rfl rfl | exact Ep rfl ⟨_,_,by assumption,by rfl⟩ | exact Ep rfl ⟨_,_,By AM,by rfl⟩ | exact Er AM rfl AK | exact Er (By AM) rfl AK)⟩,?_⟩)) ?_;simp only[go_sem]
  cases tx<;>cases z1<;>cases ao
  all_goals
   simp only[go_sem,Int.reduceBEq,k3,k5,hr,Ay,A1]
   first
    | exact(Hj true).elim fun _ ⟨nq,r1,er⟩=>by subst er;exact Ab nq AB (by simp only[go_sem];exact qa _)
    | exact(Hj false).elim fun _ ⟨nq,r1,er⟩=>by subst er;exact Ab nq AB (by simp only[go_sem];exact qa _)
 have o9:(op==9)=false:=by simp[o9]
 by_cases qN:op=10
 .subst qN;by_cases z5:qq=0;rotate_left
  .have y5:(qq==0)=false:=by simp[z5]
   simp only[go_sem,Int.reduceBEq,k3,k5,hr];refine Ab qv AB ?_;simp only[go_sem,Int.reduceBEq,k3,k5,hr,y5,bne,A1];exact qa _
  have y5:(qq==0)=true:=by simp[z5]
  obtain⟨i,d,di,hd,jo⟩:=Afj (qU rfl rfl z5)
  rw[di]at qw
  have qD:d.row=[iV d.kind,iV d.line,.str d.nm,iV d.size,iV d.init,.str d.on]:=rfl;obtain⟨_,i1,z1,rfl⟩:=Rc h1 AA 4 4 d.on;simp only[go_sem,Int.reduceBEq,k3,k5,hr];refine Ab qv AB ?_;simp only[go_sem,Int.reduceBEq,k3,k5,hr,y5,bne,Ay];refine Af AD ?_;simp only[go_sem,Int.reduceBEq,k3,k5,hr];refine Bf qw AB ?_;simp only[go_sem,Int.reduceBEq,k3,k5,hr,Au,hd,qD];refine Abb i1 (by repeat (first | exact trivial | refine⟨.inl AK,?_⟩ | refine⟨by rfl,?_⟩ | refine⟨.inr ⟨by rfl,by rfl⟩,?_⟩)) (by repeat (first | exact trivial | refine⟨.inl AK,?_⟩ | refine⟨by rfl,?_⟩ | refine⟨.inr ⟨by rfl,by rfl⟩,?_⟩ | refine⟨.inr ⟨by(first | exact Lc rfl rfl | exact Ep rfl ⟨_,_,by assumption,by rfl⟩ | exact Ep rfl ⟨_,_,By AM,by rfl⟩ | exact Er AM rfl AK | exact Er (By AM) rfl AK),by(first | exact Lc rfl rfl | exact Ep rfl ⟨_,_,by assumption,by rfl⟩ | exact Ep rfl ⟨_,_,By AM,by rfl⟩ | exact Er AM rfl AK | exact Er (By AM) rfl AK)⟩,?_⟩)) ?_;simp only[go_sem]
  cases tx<;>cases z1<;>cases ao
  all_goals
   simp only[go_sem,Int.reduceBEq,k3,k5,hr,Ay,A1]
   first
    | exact(Hj true).elim fun _ ⟨nq,r1,er⟩=>by subst er;exact Ab nq AB (by simp only[go_sem];exact qa _)
    | exact(Hj false).elim fun _ ⟨nq,r1,er⟩=>by subst er;exact Ab nq AB (by simp only[go_sem];exact qa _)
 have qN:(op==10)=false:=by simp[qN]
 by_cases qO:op=11
 .subst qO;by_cases z5:qq=0;rotate_left
  .have y5:(qq==0)=false:=by simp[z5]
   simp only[go_sem,Int.reduceBEq,k3,k5,hr];refine Ab qv AB ?_;simp only[go_sem,Int.reduceBEq,k3,k5,hr,y5,bne,A1];exact qa _
  have y5:(qq==0)=true:=by simp[z5]
  obtain⟨i,d,di,hd,jo⟩:=Afj (qU rfl rfl z5)
  rw[di]at qw
  have qD:d.row=[iV d.kind,iV d.line,.str d.nm,iV d.size,iV d.init,.str d.on]:=rfl;obtain⟨_,i1,z1,rfl⟩:=Rc h1 AA 4 4 d.on;simp only[go_sem,Int.reduceBEq,k3,k5,hr];refine Ab qv AB ?_;simp only[go_sem,Int.reduceBEq,k3,k5,hr,y5,bne,Ay];refine Af AD ?_;simp only[go_sem,Int.reduceBEq,k3,k5,hr];refine Bf qw AB ?_;simp only[go_sem,Int.reduceBEq,k3,k5,hr,Au,hd,qD];refine Abb i1 (by repeat (first | exact trivial | refine⟨.inl AK,?_⟩ | refine⟨by rfl,?_⟩ | refine⟨.inr ⟨by rfl,by rfl⟩,?_⟩)) (by repeat (first | exact trivial | refine⟨.inl AK,?_⟩ | refine⟨by rfl,?_⟩ | refine⟨.inr ⟨by rfl,by rfl⟩,?_⟩ | refine⟨.inr ⟨by(first | exact Lc rfl rfl | exact Ep rfl ⟨_,_,by assumption,by rfl⟩ | exact Ep rfl ⟨_,_,By AM,by rfl⟩ | exact Er AM rfl AK | exact Er (By AM) rfl AK),by(first | exact Lc rfl rfl | exact Ep rfl ⟨_,_,by assumption,by rfl⟩ | exact Ep rfl ⟨_,_,By AM,by rfl⟩ | exact Er AM rfl AK | exact Er (By AM) rfl AK)⟩,?_⟩)) ?_;simp only[go_sem]
  cases tx<;>cases z1<;>cases ao
  all_goals
   simp only[go_sem,Int.reduceBEq,k3,k5,hr,Ay,A1]
   first
    | exact(Hj true).elim fun _ ⟨nq,r1,er⟩=>by subst er;exact Ab nq AB (by simp only[go_sem];exact qa _)
    | exact(Hj false).elim fun _ ⟨nq,r1,er⟩=>by subst er;exact Ab nq AB (by simp only[go_sem];exact qa _)
 have qO:(op==11)=false:=by simp[qO]
 by_cases qP:op=12
 .subst qP;by_cases z7:qz=0;rotate_left
  .have y7:(qz==0)=false:=by simp[z7]
   simp only[go_sem,Int.reduceBEq,k3,k5,hr];refine Ab qA AB ?_;simp only[go_sem,Int.reduceBEq,k3,k5,hr,y7,bne,A1];exact qa _
  have y7:(qz==0)=true:=by simp[z7]
  simp only[go_sem,Int.reduceBEq,k3,k5,hr];refine Ab qA AB ?_;simp only[go_sem,Int.reduceBEq,k3,k5,hr,y7,bne,Ay];refine Ab jw AB ?_;by_cases qT:tx=true\/ao=true\/lp=true\/Bx (fun d:Tp=>d.nm==nm) p.thrs=th\/Bx (fun d:Tp=>d.nm==nm) p.thrs=0
  .by_cases b1:Bx (fun d:Tp=>d.nm==nm) p.thrs=th<;>by_cases b2:Bx (fun d:Tp=>d.nm==nm) p.thrs=0<;>cases tx<;>cases ao<;>cases lp
   all_goals first | (exfalso;simp[b1,b2]at qT;done) | skip
   all_goals
    first | have y1:(Bx (fun d:Tp=>d.nm==nm) p.thrs==th)=true:=by simp[b1];done | have y1:(Bx (fun d:Tp=>d.nm==nm) p.thrs==th)=false:=by simp[b1];done
    first | have y2:(Bx (fun d:Tp=>d.nm==nm) p.thrs==0)=true:=by simp[b2];done | have y2:(Bx (fun d:Tp=>d.nm==nm) p.thrs==0)=false:=by simp[b2];done
    simp only[go_sem,Int.reduceBEq,k3,k5,hr,y1,y2];exact qa _
  simp only[not_or,Wz]at qT;obtain⟨rfl,rfl,rfl,b1,b2⟩:=qT;have y1:(Bx (fun d:Tp=>d.nm==nm) p.thrs==th)=false:=by simp[b1]
  have y2:(Bx (fun d:Tp=>d.nm==nm) p.thrs==0)=false:=by simp[b2]
  simp only[go_sem,Int.reduceBEq,k3,k5,hr,y1,y2];obtain⟨z,qF⟩:=Anx h1.s;have qC:=X8 z 0 S nm AA;refine Af AD ?_;simp only[go_sem,Int.reduceBEq,k3,k5,hr];refine Amd (.cons qF (.cons (I0 rfl) .nil)) qC rfl ?_;by_cases c3:0<=Bx (·==nm) S
  .have f3:(0<=Bx (·==nm) S)=True:=eq_true c3;simp only[go_sem,Int.reduceBEq,k3,k5,hr,f3,ge_iff_le];exact qa _
  have f3:(0<=Bx (·==nm) S)=False:=eq_false c3;simp only[go_sem,Int.reduceBEq,k3,k5,hr,f3,ge_iff_le];obtain⟨u',s2,ha,qb,r2,h2,f2⟩:=Bsb h1 nm (by grind);obtain⟨qh,qg⟩:=P8 qb;refine Af AD ?_;simp only[go_sem,Int.reduceBEq,k3,k5,hr,ha];refine Bb ?_;simp only[go_sem,Int.reduceBEq,k3,k5,hr,r2,qh,qg];refine Bb ?_;simp only[go_sem];exact⟨_,rfl,⟨rfl,rfl⟩,⟨C8 f1.1 f2.1,h2.cl⟩,_,rfl,_,_,S++[nm],T,by rw[Fz];exact h2,Fv f1 f2,by simp,by omega⟩
 have qP:(op==12)=false:=by simp[qP]
 by_cases qQ:op=13
 .subst qQ;cases tx;rotate_left
  .obtain⟨_,nq,r1,rfl⟩:=Hj true;obtain⟨_,oq,r2,rfl⟩:=G9 qz r1;simp only[go_sem,Int.reduceBEq,k3,k5,hr];refine Ab qA AB ?_;simp only[go_sem,Int.reduceBEq,k3,k5,hr];refine Ab nq AB ?_;simp only[go_sem];refine Ab oq AB ?_;simp only[go_sem];exact qa _
  cases ao;rotate_left
  .obtain⟨_,nq,r1,rfl⟩:=Hj true;obtain⟨_,oq,r2,rfl⟩:=G9 qz r1;simp only[go_sem,Int.reduceBEq,k3,k5,hr];refine Ab qA AB ?_;simp only[go_sem,Int.reduceBEq,k3,k5,hr];refine Ab nq AB ?_;simp only[go_sem];refine Ab oq AB ?_;simp only[go_sem];exact qa _
  obtain⟨_,nq,r1,rfl⟩:=Hj (Bx (fun d:Tp=>d.nm==nm) p.thrs==th);obtain⟨_,oq,r2,rfl⟩:=G9 qz r1;simp only[go_sem,Int.reduceBEq,k3,k5,hr];refine Ab qA AB ?_;simp only[go_sem,Int.reduceBEq,k3,k5,hr];refine Ab jw AB ?_;simp only[go_sem,Int.reduceBEq,k3,k5,hr];refine Ab nq AB ?_;simp only[go_sem];refine Ab oq AB ?_;simp only[go_sem];exact qa _
 have qQ:(op==13)=false:=by simp[qQ]
 by_cases qR:op=14
 .subst qR;cases tx
  .obtain⟨_,nq,r1,rfl⟩:=Hj lp;obtain⟨_,oq,r2,rfl⟩:=G9 jv r1;simp only[go_sem,Int.reduceBEq,k3,k5,hr];refine Ab ji AB ?_;simp only[go_sem,Int.reduceBEq,k3,k5,hr];refine Ab nq AB ?_;simp only[go_sem];refine Ab oq AB ?_;cases y:(r2==0)
   .simp only[go_sem,Int.reduceBEq,k3,k5,hr,y];refine Af AD ?_;simp only[go_sem,Int.reduceBEq,k3,k5,hr,y];obtain⟨u',s2,ha,qb,qn,h2,f2⟩:=Y2 h1 nm (by grind);obtain⟨qh,qg⟩:=P8 qb;obtain⟨_,qm,r3,rfl⟩:=G9 r2 e0;have qk:(s2.set w (Fa p th uA uS u'))[n]?=some (sO 14 line nm arg iz it idx ex.op ex.n ex.nm ex.z ex.t ex.l bz bt body ez et els):=by rw[f2.2.1 n (Ao.1 k3).1 (qj n hn)];exact k3
    have ql:(s2.set w (Fa p th uA uS u'))[m]?=some (gO p):=by rw[f2.2.1 m (Ao.1 k5).1 (qj m hm)];exact k5
    refine Af AD ?_;simp only[go_sem,Int.reduceBEq,k3,k5,hr,ha];refine Bb ?_;simp only[go_sem,Int.reduceBEq,k3,k5,hr,qn,qh,qg];refine Bb ?_;simp only[go_sem,qk,ql];refine Ab q0 AB ?_;simp only[go_sem];refine Ab qm AB ?_;simp only[go_sem];exact⟨_,rfl,⟨rfl,rfl⟩,⟨C8 f1.1 f2.1,h2.cl⟩,_,rfl,_,_,S,T++[nm],by rw[Fz];exact h2,Fv f1 f2,by omega,by simp⟩
   .obtain⟨z,qF⟩:=Anx h1.t;have qC:=X8 z 0 T nm AA;simp only[go_sem];refine Af AD ?_;simp only[go_sem,Int.reduceBEq,k3,k5,hr,y];refine Amd (.cons qF (.cons (I0 rfl) .nil)) qC rfl ?_;by_cases c3:0<=Bx (·==nm) T
    .have f3:(0<=Bx (·==nm) T)=True:=eq_true c3;simp only[go_sem,Int.reduceBEq,k3,k5,hr,f3,ge_iff_le];obtain⟨u',s2,ha,qb,qn,h2,f2⟩:=Y2 h1 nm (by grind);obtain⟨qh,qg⟩:=P8 qb;obtain⟨_,qm,r3,rfl⟩:=G9 8 e0;have qk:(s2.set w (Fa p th uA uS u'))[n]?=some (sO 14 line nm arg iz it idx ex.op ex.n ex.nm ex.z ex.t ex.l bz bt body ez et els):=by rw[f2.2.1 n (Ao.1 k3).1 (qj n hn)];exact k3
     have ql:(s2.set w (Fa p th uA uS u'))[m]?=some (gO p):=by rw[f2.2.1 m (Ao.1 k5).1 (qj m hm)];exact k5
     refine Af AD ?_;simp only[go_sem,Int.reduceBEq,k3,k5,hr,ha];refine Bb ?_;simp only[go_sem,Int.reduceBEq,k3,k5,hr,qn,qh,qg];refine Bb ?_;simp only[go_sem,qk,ql];refine Ab q0 AB ?_;simp only[go_sem];refine Ab qm AB ?_;simp only[go_sem];exact⟨_,rfl,⟨rfl,rfl⟩,⟨C8 f1.1 f2.1,h2.cl⟩,_,rfl,_,_,S,T++[nm],by rw[Fz];exact h2,Fv f1 f2,by omega,by simp⟩
    .have f3:(0<=Bx (·==nm) T)=False:=eq_false c3;simp only[go_sem,Int.reduceBEq,k3,k5,hr,f3,ge_iff_le];obtain⟨u',s2,ha,qb,qn,h2,f2⟩:=Y2 h1 nm (by grind);obtain⟨qh,qg⟩:=P8 qb;obtain⟨_,qm,r3,rfl⟩:=G9 r2 e0;have qk:(s2.set w (Fa p th uA uS u'))[n]?=some (sO 14 line nm arg iz it idx ex.op ex.n ex.nm ex.z ex.t ex.l bz bt body ez et els):=by rw[f2.2.1 n (Ao.1 k3).1 (qj n hn)];exact k3
     have ql:(s2.set w (Fa p th uA uS u'))[m]?=some (gO p):=by rw[f2.2.1 m (Ao.1 k5).1 (qj m hm)];exact k5
     refine Af AD ?_;simp only[go_sem,Int.reduceBEq,k3,k5,hr,ha];refine Bb ?_;simp only[go_sem,Int.reduceBEq,k3,k5,hr,qn,qh,qg];refine Bb ?_;simp only[go_sem,qk,ql];refine Ab q0 AB ?_;simp only[go_sem];refine Ab qm AB ?_;simp only[go_sem];exact⟨_,rfl,⟨rfl,rfl⟩,⟨C8 f1.1 f2.1,h2.cl⟩,_,rfl,_,_,S,T++[nm],by rw[Fz];exact h2,Fv f1 f2,by omega,by simp⟩
  .obtain⟨_,nq,r1,rfl⟩:=Hj true;obtain⟨_,oq,r2,rfl⟩:=G9 jv r1;simp only[go_sem,Int.reduceBEq,k3,k5,hr];refine Ab ji AB ?_;simp only[go_sem,Int.reduceBEq,k3,k5,hr];refine Ab nq AB ?_;simp only[go_sem];refine Ab oq AB ?_;cases y:(r2==0)
   .simp only[go_sem,Int.reduceBEq,k3,k5,hr,y];refine Af AD ?_;simp only[go_sem,Int.reduceBEq,k3,k5,hr,y];obtain⟨u',s2,ha,qb,qn,h2,f2⟩:=Y2 h1 nm (by grind);obtain⟨qh,qg⟩:=P8 qb;obtain⟨_,qm,r3,rfl⟩:=G9 r2 e0;have qk:(s2.set w (Fa p th uA uS u'))[n]?=some (sO 14 line nm arg iz it idx ex.op ex.n ex.nm ex.z ex.t ex.l bz bt body ez et els):=by rw[f2.2.1 n (Ao.1 k3).1 (qj n hn)];exact k3
    have ql:(s2.set w (Fa p th uA uS u'))[m]?=some (gO p):=by rw[f2.2.1 m (Ao.1 k5).1 (qj m hm)];exact k5
    refine Af AD ?_;simp only[go_sem,Int.reduceBEq,k3,k5,hr,ha];refine Bb ?_;simp only[go_sem,Int.reduceBEq,k3,k5,hr,qn,qh,qg];refine Bb ?_;simp only[go_sem,qk,ql];refine Ab q0 AB ?_;simp only[go_sem];refine Ab qm AB ?_;simp only[go_sem];exact⟨_,rfl,⟨rfl,rfl⟩,⟨C8 f1.1 f2.1,h2.cl⟩,_,rfl,_,_,S,T++[nm],by rw[Fz];exact h2,Fv f1 f2,by omega,by simp⟩
   .obtain⟨z,qF⟩:=Anx h1.t;have qC:=X8 z 0 T nm AA;simp only[go_sem];refine Af AD ?_;simp only[go_sem,Int.reduceBEq,k3,k5,hr,y];refine Amd (.cons qF (.cons (I0 rfl) .nil)) qC rfl ?_;by_cases c3:0<=Bx (·==nm) T
    .have f3:(0<=Bx (·==nm) T)=True:=eq_true c3;simp only[go_sem,Int.reduceBEq,k3,k5,hr,f3,ge_iff_le];obtain⟨u',s2,ha,qb,qn,h2,f2⟩:=Y2 h1 nm (by grind);obtain⟨qh,qg⟩:=P8 qb;obtain⟨_,qm,r3,rfl⟩:=G9 8 e0;have qk:(s2.set w (Fa p th uA uS u'))[n]?=some (sO 14 line nm arg iz it idx ex.op ex.n ex.nm ex.z ex.t ex.l bz bt body ez et els):=by rw[f2.2.1 n (Ao.1 k3).1 (qj n hn)];exact k3
     have ql:(s2.set w (Fa p th uA uS u'))[m]?=some (gO p):=by rw[f2.2.1 m (Ao.1 k5).1 (qj m hm)];exact k5
     refine Af AD ?_;simp only[go_sem,Int.reduceBEq,k3,k5,hr,ha];refine Bb ?_;simp only[go_sem,Int.reduceBEq,k3,k5,hr,qn,qh,qg];refine Bb ?_;simp only[go_sem,qk,ql];refine Ab q0 AB ?_;simp only[go_sem];refine Ab qm AB ?_;simp only[go_sem];exact⟨_,rfl,⟨rfl,rfl⟩,⟨C8 f1.1 f2.1,h2.cl⟩,_,rfl,_,_,S,T++[nm],by rw[Fz];exact h2,Fv f1 f2,by omega,by simp⟩
    .have f3:(0<=Bx (·==nm) T)=False:=eq_false c3;simp only[go_sem,Int.reduceBEq,k3,k5,hr,f3,ge_iff_le];obtain⟨u',s2,ha,qb,qn,h2,f2⟩:=Y2 h1 nm (by grind);obtain⟨qh,qg⟩:=P8 qb;obtain⟨_,qm,r3,rfl⟩:=G9 r2 e0;have qk:(s2.set w (Fa p th uA uS u'))[n]?=some (sO 14 line nm arg iz it idx ex.op ex.n ex.nm ex.z ex.t ex.l bz bt body ez et els):=by rw[f2.2.1 n (Ao.1 k3).1 (qj n hn)];exact k3
     have ql:(s2.set w (Fa p th uA uS u'))[m]?=some (gO p):=by rw[f2.2.1 m (Ao.1 k5).1 (qj m hm)];exact k5
     refine Af AD ?_;simp only[go_sem,Int.reduceBEq,k3,k5,hr,ha];refine Bb ?_;simp only[go_sem,Int.reduceBEq,k3,k5,hr,qn,qh,qg];refine Bb ?_;simp only[go_sem,qk,ql];refine Ab q0 AB ?_;simp only[go_sem];refine Ab qm AB ?_;simp only[go_sem];exact⟨_,rfl,⟨rfl,rfl⟩,⟨C8 f1.1 f2.1,h2.cl⟩,_,rfl,_,_,S,T++[nm],by rw[Fz];exact h2,Fv f1 f2,by omega,by simp⟩
 have qR:(op==14)=false:=by simp[qR]
 obtain⟨_,nq,r1,rfl⟩:=Hj tx;obtain⟨_,oq,r2,rfl⟩:=G9 jV r1;obtain⟨_,jc,r3,rfl⟩:=G9 jU r2;simp only[go_sem,Int.reduceBEq,k3,k5,hr,o1,o2,o3,o4,o5,o6,o7,o8,o9,qN,qO,qP,qQ,qR];refine Af AD ?_;simp only[go_sem,Int.reduceBEq,k3,k5,hr];refine Bf jz AB ?_;simp only[go_sem,Int.reduceBEq,k3,k5,hr];refine Bf jk AB ?_;simp only[go_sem,Int.reduceBEq,k3,k5,hr];refine Bf nq AB ?_;simp only[go_sem,Int.reduceBEq,k3,k5,hr];refine Bf oq AB ?_;simp only[go_sem,Int.reduceBEq,k3,k5,hr];refine Bf jc AB ?_;simp only[go_sem];exact qa _
def Azd{σ τ:St}{n i g off:Nat}{v:V}(h:Rm σ n (.ptr i g off) v=some τ):Aca σ[i]? σ n i g off v=some (.und,τ):=by
 rw[<-A0a,Ahl,h];rfl
def Bsd{σ:St}{w:Nat}{p:Gp}{th:Int}{uA uS uT:V}{X:List Sp}{S T:List (List V)}(h:WK σ w p th uA uS uT (X.map Sp.row) S T)(x:Sp)(hb:X.length<=1000):
  ∃ u' s3 j g Y,Dt 176 (11,98) uA (.lst 1 [(sZ 0 0 [] [])]) σ=some (u',s3)/\u'.cellB=true/\u'=.sl j g 0 (X.length+1) 11 true/\s3[w]?=some (Fa p th uA uS uT) /\
   Rm s3 11 (.ptr j g (0+X.length*11)) (.agg x.row)=some (s3.set j Y)/\(s3.set j Y)[w]?=some (Fa p th uA uS uT) /\
   (∀ W',Rm (s3.set w W') 11 (.ptr j g (0+X.length*11)) (.agg x.row)=some ((s3.set w W').set j Y)/\(s3.set w W').set j Y=(s3.set j Y).set w W') /\
   WK ((s3.set j Y).set w (Fa p th u' uS uT)) w p th u' uS uT ((X++[x]).map Sp.row) S T/\FW w σ ((s3.set j Y).set w (Fa p th u' uS uT))/\(∀ i,i<σ.length->i ∉ fp σ w->s3[i]?=σ[i]?/\(s3.set j Y)[i]?=σ[i]?):=by
 have hw:=Ub h;have n1:(X.map Sp.row).length=X.length:=Ar ..;obtain⟨u',s3,e1,g1,hl,hk,hr,hc⟩:=Xt (bytes:=176) (row:=(sZ 0 0 [] [])) h.a AA rfl rfl AA;obtain⟨j,g,cs',hu,hj,qu,ke⟩:=Bjf (row:=x.row) g1 (O3 x) (Hc x);rw[n1]at hu qu;have jp:j∈u'.refs:=by rw[hu];simp[V.refs]
 have jE:=hr j jp
 have jq:j≠w:=fun e=>by
  rcases jE with h2 | h2
  .exact(h.ad j h2).1 e
  .omega
 have nn:∀ i,i<σ.length->i ∉ uA.refs->i ∉ u'.refs:=fun i hi h1 h2=>by
  grind
 have nj:∀ i,i<σ.length->i ∉ uA.refs->i≠j:=fun i hi h1 e=>nn i hi h1 (e ▸ jp)
 have jB:∀ i,i<σ.length->i ∉ uA.refs->s3[i]?=σ[i]?:=hk
 have qJ:∀ i,i<σ.length->i ∉ uA.refs->(s3.set j (.row cs' 98 g 0))[i]?=σ[i]?:=fun i hi h1=>by
  grind
 have kf:=Uc h;have kk:∀ i,i ∉ fp σ w->i ∉ uA.refs:=fun i hi h1=>hi (by grind)
 have wA:w ∉ uA.refs:=fun e=>(h.ad w e).1 rfl
 have jd:s3[w]?=_:=(jB w hw wA).trans h.row;have je:=(qJ w hw wA).trans h.row;have c4:Cl (s3.set j (.row cs' 98 g 0)):=F9 (hc h.cl) (by grind[Ob.refs]);have qH:=qu s3 rfl;refine⟨u',s3,j,g,.row cs' 98 g 0,e1,Kz g1,hu,jd,qH.1,je,fun W'=>⟨(qu (s3.set w W') (Ce (Ne.symm jq))).1,List.set_comm _ _ (Ne.symm jq)⟩,?_⟩
 have jI:=Abk (σ2:=s3.set j (.row cs' 98 g 0)) (th':=th) (A':=(X++[x]).map Sp.row) (vA:=u') h (by grind) (fun i hi h1 _ _=>qJ i hi h1) (by grind) (Ig h.s fun i hi=>qJ i (Cz h.s i hi) fun e=>(h.ad i e).2.1 hi) (Ig h.t fun i hi=>qJ i (Cz h.t i hi) fun e=>(h.ad i e).2.2 hi) hr (fun i hi=>.inl hi) (fun i hi=>.inl hi)
  (fun i hi=>?_) (fun i hi=>(h.sd i hi).2) c4
 .grind
 .refine⟨fun e=>?_,fun e=>?_⟩
  .exact nn i (Cz h.s i e) (fun e2=>(h.ad i e2).2.1 e) hi
  .exact nn i (Cz h.t i e) (fun e2=>(h.ad i e2).2.2 e) hi
def A11{σ:St}{w:Nat}{p:Gp}{th:Int}{uA uS uT:V}{X:List Sp}{x:Sp}{S T:List (List V)}(h:WK σ w p th uA uS uT ((X++[x]).map Sp.row) S T):
  ∃ u',Ha 11 uA none (some (iV (X.length:Int))) none=some u'/\u'.cellB=true/\WK (σ.set w (Fa p th u' uS uT)) w p th u' uS uT (X.map Sp.row) S T/\FW w σ (σ.set w (Fa p th u' uS uT)):=by
 have h1:=h.a;rw[Fz,Aw,B0]at h1;obtain⟨u',e1,g1,hr⟩:=Ayh h1;rw[Ar]at e1;exact⟨u',e1,Kz g1,Abk h (Aj _) (fun _ _ _ _ _=>rfl) g1 h.s h.t (fun j hj=>.inl (by grind)) (fun j hj=>.inl hj) (fun j hj=>.inl hj) (fun j hj=>(h.ad j (by grind)).2) (fun j hj=>(h.sd j hj).2) h.cl⟩
def Bse(w:Nat)(p:Gp)(th:Int)(X:List Sp)(n:Nat)(S T:List (List UInt8))(σ:St)(v:V)(σ':St):Prop:=∃ e ln:Int,v=.tup [iV e,iV ln]/\∃ (vA vS vT:V) (S' T':List (List UInt8)),WK σ' w p th vA vS vT (X.map Sp.row) (S'.map fun x=>[V.str x]) (T'.map fun x=>[V.str x])/\FW w σ σ'/\S'.length<=S.length+n/\T'.length<=T.length+n
theorem Aun{σ τ:St}{m j:Nat}(hw:FW m σ τ)(hl:j<σ.length)(hn:j ∉ fp σ m):τ[j]?=σ[j]?/\j ∉ fp τ m:=by
 refine⟨hw.2.1 j hl hn,fun hm=>?_⟩;rcases hw.2.2 j hm with h2 | h2
 .grind
 .omega
def Bae{σ τ:St}{m j:Nat}{x:Ob}(hw:FW m σ τ)(hj:σ[j]?=some x)(hn:j ∉ fp σ m):τ[j]?=some x/\j ∉ fp τ m:=by
 grind[Aun]
def Ahy(p:Gp)(l:List Sp):Prop:=∀ (σ:St) (w:Nat) (th:Int) (uA uS uT:V) (X:List Sp) (S T:List (List UInt8)) (z:Bool) (t:Nat),WK σ w p th uA uS uT (X.map Sp.row) (S.map fun x=>[V.str x]) (T.map fun x=>[V.str x])->X.length<=6->S.length+Sp.szs l<=1000000->T.length+Sp.szs l<=1000000 ->
  ∃ v σ',Th TT PT 69 [.ptr w 0 0,SL z t (l.map Sp.row)] σ v σ'/\Bse w p th X (Sp.szs l) S T σ v σ'
set_option maxHeartbeats 8000000 in
def Auo{p:Gp}(hp:LnG p){l:List Sp}(hl:Cy (l.map Sp.row)<=1000000000)(IH:∀ x∈l,Ahy p x.body/\Ahy p x.els):Ahy p l:=by
 intro σ w th uA uS uT X S T z t h hX hS hT;have kc:=L9 (f:=Sp.row) (fun x=>by grind[N9]) l;have n1:(l.map Sp.row).length=l.length:=Ar ..;have hw:=Ub h;refine Alx T69 rfl ?_;simp only[go_sem]
 refine Bk (α:=Nat × St × V × V × V × List (List UInt8) × List (List UInt8)) (fun a=>l.length - a.1) (fun a=>[(0,.ptr w 0 0),(1,SL z t (l.map Sp.row)),(6,iV (a.1:Int))]) (fun a=>a.2.1)
  (fun a=>a.1<=l.length/\WK a.2.1 w p th a.2.2.1 a.2.2.2.1 a.2.2.2.2.1 (X.map Sp.row) (a.2.2.2.2.2.1.map fun x=>[V.str x]) (a.2.2.2.2.2.2.map fun x=>[V.str x])/\FW w σ a.2.1/\a.2.2.2.2.2.1.length+Sp.szs (l.drop a.1)<=S.length+Sp.szs l/\a.2.2.2.2.2.2.length+Sp.szs (l.drop a.1)<=T.length+Sp.szs l) ?_ (0,σ,uA,uS,uT,S,T) ⟨Ax _,h,Ali _ _,by simp,by simp⟩
 clear h uA uS uT;rintro⟨i,s,vA,vS,vT,S1,T1⟩ ⟨hi,h1,f1,qV,qW⟩ ih;simp only at hi h1 f1 qV qW ih;refine Bd Bpq ?_;rcases Bh i l.length with h' | h'
 .obtain⟨x,hx,hd,hm⟩:=Br h';rw[hd,Sp.szs]at qV qW;have jK:=Mc x;have qY:=J9 (f:=Sp.row) hm;have qy:=Hc x;obtain⟨jN,jO⟩:=IH x hm;have h2:WK (s++[.row x.row 98 0 0]) w p th vA vS vT (X.map Sp.row) (S1.map fun x=>[V.str x]) (T1.map fun x=>[V.str x]):=Aw7 h1 _ (Jl h1.cl qy);have f2:FW w s (s++[.row x.row 98 0 0]):=Alj _ (Ub h1);obtain⟨_,s2,q1,e,rfl,wS,wT,S2,T2,h3,f3,bS,bT⟩:=Bkz h2 hp AA AA AA x AA
  have qj:∀ {s':St} {w1 w2 w3:V} {A B C:List (List V)},WK s' w p th w1 w2 w3 A B C->FW w s s'->s.length ∉ fp s w:=fun _ _ hm=>by
   rw[Uc h1]at hm;simp only[Bp,Cu]at hm;rcases hm with hm | hm | hm | hm
   .have:=Ub h1;omega
   .have:=Cz h1.a _ hm;omega
   .have:=Cz h1.s _ hm;omega
   .have:=Cz h1.t _ hm;omega
  have jP:s.length ∉ fp (s++[.row x.row 98 0 0]) w:=fun hm=>by
   rw[Uc h2,<-Uc h1]at hm
   grind
  have k2:s2[s.length]?=some (.row x.row 98 0 0):=by
   rw[f3.2.1 _ AE jP];simp
  have qM:s.length ∉ fp s2 w:=fun hm=>by
   rcases f3.2.2 _ hm with h4 | h4
   .grind
   grind
  have l3:=Abe h3.a;rw[Ar]at l3;have r3:=h3.row;have qe:=Fl x;have qB:=Fv f1 (Fv f2 f3);rw[qe]at q1 qy;have kg:=k2;rw[qe]at k2;simp only[go_sem,n1,Az h',Au,hx,qe];refine Ca q1 ?_;have e7:IntKind.i64.wrap ((X.length:Int)+1)=((X.length+1:Nat):Int):=by rw[Cm AA];rfl
  by_cases c6:X.length=6
  .have f6:((6:Int)<((X.length+1:Nat):Int))=True:=eq_true AA;simp only[go_sem,r3,l3,e7,gt_iff_lt,f6,bne,Int.reduceBEq,A1];refine Af AD ?_;simp only[go_sem,k2];exact⟨_,rfl,⟨rfl,rfl⟩,⟨qB.1,h3.cl⟩,_,_,rfl,_,_,_,S2,T2,h3,qB,by omega,by omega⟩
  have f6:((6:Int)<((X.length+1:Nat):Int))=False:=eq_false AA;by_cases e0:e=0;rotate_left
  .have y0:(e==0)=false:=by simp[e0]
   simp only[go_sem,r3,l3,e7,gt_iff_lt,f6,bne,y0,A1];refine Af AD ?_;simp only[go_sem,k2];exact⟨_,rfl,⟨rfl,rfl⟩,⟨qB.1,h3.cl⟩,_,_,rfl,_,_,_,S2,T2,h3,qB,by omega,by omega⟩
  subst e0;obtain⟨u',s3,j,g,Y,ha,qb,hu,jS,qH,r4,qs,h4,f4,js⟩:=Bsd h3 x AA;obtain⟨qh,qg⟩:=P8 qb;have k3:s3[s.length]?=_:=(js s.length (Ao.1 k2).1 qM).1.trans k2;rw[qe]at qH;simp only[Gf]at qH qs;have jf:=Azd qH;have qr:∀ W',Aca (s3.set w W')[j]? (s3.set w W') 11 j g (X.length*11) (.agg x.row)=some (.und,(s3.set w W').set j Y):=fun W'=>Azd (qs W').1
  rw[qe]at qr;subst hu
  have qE:Mr 11 (.sl j g 0 (X.length+1) 11 true) (iV (X.length:Int))=some (.ptr j g (X.length*11)):=by
   have:=A0q (m:=11) (j:=j) (g:=g) (off:=0) (w:=true) (k:=.i64) (show X.length<X.length+1 by omega);rw[Gf]at this;exact this
  simp only[go_sem,r3,l3,e7,gt_iff_lt,f6,bne,Int.reduceBEq,Ay];refine Bjv 9 12 [0,1,2,3,4,5,6,7,8,9,10,11,12] [0,1,2,3,4,5,6,7,10,11,12,8,9] [[],[0],[1],[2],[],[3],[],[0,1,2,3,4,5,6],[0,1,2,3,4,5,6,7],[0,1,2,3,4,5,6,7,8],[0,1,2,3,4,5,6,7],[0,1,2,3,4,5,6,7,10],[0,1,2,3,4,5,6,7,11,9]] [[],[0],[1],[2],[],[3],[],[0,1,2,3,4,5,6],[0,1,2,3,4,5,6,7],[0,1,2,3,4,5,6,7,8],[0,1,2,3,4,5,6,7,9],[0,1,2,3,4,5,6,7],[0,1,2,3,4,5,6,7,11,10]] (E:=?E) (S:=?S) AD ?h1 ?h2 ?h3
  case h1=>
   simp only[D2,Nq,Ux,Q5,Wq,An,Dc,Nat.reduceAdd];simp only[go_sem,r3,l3,k2,ha];refine Bb ?_;simp only[go_sem,ha];refine Bb ?_;simp only[go_sem,qE,jf];refine Bb ?_;simp only[go_sem,r4];refine Bb ?_;simp only[go_sem];exact Bod
  case h2=>
   simp only[D2,Nq,Ux,Q5,Wq,An,Dc,Nat.reduceAdd];simp only[go_sem,r3,l3,k2,ha];refine Bb ?_;simp only[go_sem,ha];refine Bb ?_;simp only[go_sem,jS];refine Bb ?_;simp only[go_sem,qE,qr];refine Bb ?_;simp only[go_sem];exact Boe rfl (qs _).2
  case h3=>
   have jJ:s.length≠w:=fun e=>qM (by grind)
   have k4:((s3.set j Y).set w (.row [SL p.dz p.dt (p.decls.map Dp.row),SL p.tz p.tt (p.thrs.map Tp.row),iV th,.sl j g 0 (X.length+1) 11 true,wS,wT] 141 0 0))[s.length]?=some (sO x.op x.line x.nm x.arg x.iz x.it x.idx x.ex.op x.ex.n x.ex.nm x.ex.z x.ex.t x.ex.l x.bz x.bt x.body x.ez x.et x.els):=by rw[Ce (Ne.symm jJ)];exact(js s.length (Ao.1 k2).1 qM).2.trans k2
   have jQ:=(Aun f4 (Ao.1 k2).1 qM).2;obtain⟨_,s5,q5,e5,kh,rfl,xA,xS,xT,S5,T5,h5,f5,jW,jX⟩:=jN _ w th _ _ _ (X++[x]) S2 T2 x.bz x.bt h4 (by grind) AA AA;have jm:=Fv qB (Fv f4 f5);obtain⟨k5,kj⟩:=Bae f5 k4 jQ;simp only[go_sem,k4];refine Ca q5 ?_;cases y5:(e5==0)
   .obtain⟨u6,qL,qZ,h7,f7⟩:=A11 h5;obtain⟨qp,qo⟩:=P8 qZ;have r6:=h5.row;have l6:=Abe h5.a;rw[Ar,Aq,Q6]at l6;have e8:IntKind.i64.wrap (((X.length+1:Nat):Int) - 1)=(X.length:Int):=by rw[Cm AA];omega
    have g7:=Fv jm f7;simp only[go_sem,y5];refine Af AD ?_;simp only[go_sem,r6,l6,e8,qL,qp,qo];refine Bb ?_;simp only[go_sem,bne,y5,A1,Ay,A2 (show i<9223372036854775807 by omega)];exact⟨_,rfl,⟨rfl,rfl⟩,⟨g7.1,h7.cl⟩,_,_,rfl,_,_,_,S5,T5,h7,g7,by omega,by omega⟩
   .obtain⟨_,s9,q9,e9,ki,rfl,zA,zS,zT,S9,T9,h9,f9,jY,jZ⟩:=jO _ w th _ _ _ (X++[x]) S5 T5 x.ez x.et h5 (by grind) AA AA;have jA:=Fv jm f9;obtain⟨u6,qL,qZ,h7,f7⟩:=A11 h9;obtain⟨qp,qo⟩:=P8 qZ;have r6:=h9.row;have l6:=Abe h9.a;rw[Ar,Aq,Q6]at l6;have e8:IntKind.i64.wrap (((X.length+1:Nat):Int) - 1)=(X.length:Int):=by rw[Cm AA];omega
    have g7:=Fv jA f7;simp only[go_sem,y5,k5];refine Ca q9 ?_;simp only[go_sem];cases y9:(e9==0)
    .refine Af AD ?_;simp only[go_sem,r6,l6,e8,qL,qp,qo];refine Bb ?_;simp only[go_sem,bne,y9,A1,Ay,A2 (show i<9223372036854775807 by omega)];exact⟨_,rfl,⟨rfl,rfl⟩,⟨g7.1,h7.cl⟩,_,_,rfl,_,_,_,S9,T9,h7,g7,by omega,by omega⟩
    .refine Af AD ?_;simp only[go_sem,r6,l6,e8,qL,qp,qo];refine Bb ?_;simp only[go_sem,bne,y9,A1,Ay,A2 (show i<9223372036854775807 by omega)];exact Av (ih (i+1,_,u6,zS,zT,S9,T9) AA ⟨h',h7,g7,by grind,by grind⟩) rfl
 .simp only[go_sem,n1,Bl h'];rw[D1 h',Sp.szs]at qV qW;exact⟨_,rfl,⟨rfl,rfl⟩,⟨f1.1,h1.cl⟩,_,_,rfl,_,_,_,S1,T1,h1,f1,by omega,by omega⟩
def Za(v:V):Prop:=∃ e ln:Int,v=.tup [iV e,iV ln]
set_option maxHeartbeats 4000000 in
def A6o(z:Bool)(t:Nat)(l:List Dp)(hl:l.length<=1000000000):∃ v,Fn TT PT 66 [SL z t (l.map Dp.row)] v/\Za v:=by
 have n1:(l.map Dp.row).length=l.length:=Ar ..;refine Pe T66 rfl ?_;simp only[go_sem];refine Bk (α:=Nat × St × Int × Int × Int × Int) (fun a=>l.length - a.1) (fun a=>[(0,SL z t (l.map Dp.row)),(4,iV a.2.2.1),(5,iV a.2.2.2.1),(6,iV a.2.2.2.2.1),(7,iV a.2.2.2.2.2),(8,iV (a.1:Int))]) (fun a=>a.2.1) (fun a=>a.1<=l.length) ?_ (0,[],0,0,0,0) (Ax _);rintro⟨i,s,c4,c5,c6,c7⟩ hi ih;simp only at hi ih;refine Bd Bpl ?_;have qa:∀ (s:St) (e ln:Int),∃ v,some (V.tup [iV e,iV ln])=some v/\(Ci v=true/\v.refs=[]/\Ed [] v=some v)/\Za v:=fun _ e ln=>⟨_,rfl,⟨rfl,rfl,rfl⟩,e,ln,rfl⟩
 rcases Bh i l.length with h' | h';rotate_left
 .simp only[go_sem,n1,Bl h'];exact qa [] _ _
 obtain⟨x,hx,-,-⟩:=Br h';have qe:x.row=[iV x.kind,iV x.line,.str x.nm,iV x.size,iV x.init,.str x.on]:=rfl;obtain⟨z2,t2,qf⟩:=Xd z t 6 (l.map Dp.row) .i64 i AA;rw[<-W4]at qf;have hd:=X9 z2 t2 (l.take i) x.nm (by grind);have ho:=X9 z2 t2 (l.take i) x.on (by grind);simp only[go_sem,n1,Az h',Au,hx,qe];refine Af AD ?_;simp only[go_sem,qf];refine Bf hd AB ?_;by_cases g1:0<=Bx (fun d:Dp=>d.nm==x.nm) (l.take i)
 .have f1:(0<=Bx (fun d:Dp=>d.nm==x.nm) (l.take i))=True:=eq_true g1;simp only[go_sem,f1,ge_iff_le];refine Af AD ?_;simp only[go_sem];exact qa [] _ _
 have f1:(0<=Bx (fun d:Dp=>d.nm==x.nm) (l.take i))=False:=eq_false g1;by_cases g2:4<x.size
 .have f2:((4:Int)<x.size)=True:=eq_true g2;simp only[go_sem,f1,ge_iff_le,gt_iff_lt,f2];refine Af AD ?_;simp only[go_sem];exact qa [] _ _
 have f2:((4:Int)<x.size)=False:=eq_false g2;by_cases h1:x.kind=1
 .have q1:(x.kind==1)=true:=by simp[h1]
  have q2:(x.kind==2)=false:=by simp[h1]
  have q3:(x.kind==3)=false:=by simp[h1]
  have q4:(x.kind==4)=false:=by simp[h1]
  have q5:(x.kind==5)=false:=by simp[h1]
  by_cases u4:12<(IntKind.i64.wrap (c4+max x.size 1))
  .have t4:((12:Int)<(IntKind.i64.wrap (c4+max x.size 1)))=True:=eq_true u4;simp only[go_sem,f1,ge_iff_le,gt_iff_lt,f2,q1,q2,q3,q4,q5,t4];refine Af AD ?_;simp only[go_sem];exact qa [] _ _
  have t4:((12:Int)<(IntKind.i64.wrap (c4+max x.size 1)))=False:=eq_false u4;by_cases u5:4<c5
  .have t5:((4:Int)<c5)=True:=eq_true u5;simp only[go_sem,f1,ge_iff_le,gt_iff_lt,f2,q1,q2,q3,q4,q5,t4,t5];refine Af AD ?_;simp only[go_sem];exact qa [] _ _
  have t5:((4:Int)<c5)=False:=eq_false u5;by_cases u6:2<c6
  .have t6:((2:Int)<c6)=True:=eq_true u6;simp only[go_sem,f1,ge_iff_le,gt_iff_lt,f2,q1,q2,q3,q4,q5,t4,t5,t6];refine Af AD ?_;simp only[go_sem];exact qa [] _ _
  have t6:((2:Int)<c6)=False:=eq_false u6;by_cases u7:2<c7
  .have t7:((2:Int)<c7)=True:=eq_true u7;simp only[go_sem,f1,ge_iff_le,gt_iff_lt,f2,q1,q2,q3,q4,q5,t4,t5,t6,t7];refine Af AD ?_;simp only[go_sem];exact qa [] _ _
  have t7:((2:Int)<c7)=False:=eq_false u7;simp only[go_sem,f1,ge_iff_le,gt_iff_lt,f2,q1,q2,q3,q4,q5,t4,t5,t6,t7,A2 (show i<9223372036854775807 by omega)];exact Av (ih (i+1,_,(IntKind.i64.wrap (c4+max x.size 1)),c5,c6,c7) AA h') rfl
 by_cases h2:x.kind=2
 .have q1:(x.kind==1)=false:=by simp[h2]
  have q2:(x.kind==2)=true:=by simp[h2]
  have q3:(x.kind==3)=false:=by simp[h2]
  have q4:(x.kind==4)=false:=by simp[h2]
  have q5:(x.kind==5)=false:=by simp[h2]
  by_cases u4:12<(IntKind.i64.wrap (c4+max x.size 1))
  .have t4:((12:Int)<(IntKind.i64.wrap (c4+max x.size 1)))=True:=eq_true u4;simp only[go_sem,f1,ge_iff_le,gt_iff_lt,f2,q1,q2,q3,q4,q5,t4];refine Af AD ?_;simp only[go_sem];exact qa [] _ _
  have t4:((12:Int)<(IntKind.i64.wrap (c4+max x.size 1)))=False:=eq_false u4;by_cases u5:4<c5
  .have t5:((4:Int)<c5)=True:=eq_true u5;simp only[go_sem,f1,ge_iff_le,gt_iff_lt,f2,q1,q2,q3,q4,q5,t4,t5];refine Af AD ?_;simp only[go_sem];exact qa [] _ _
  have t5:((4:Int)<c5)=False:=eq_false u5;by_cases u6:2<c6
  .have t6:((2:Int)<c6)=True:=eq_true u6;simp only[go_sem,f1,ge_iff_le,gt_iff_lt,f2,q1,q2,q3,q4,q5,t4,t5,t6];refine Af AD ?_;simp only[go_sem];exact qa [] _ _
  have t6:((2:Int)<c6)=False:=eq_false u6;by_cases u7:2<c7
  .have t7:((2:Int)<c7)=True:=eq_true u7;simp only[go_sem,f1,ge_iff_le,gt_iff_lt,f2,q1,q2,q3,q4,q5,t4,t5,t6,t7];refine Af AD ?_;simp only[go_sem];exact qa [] _ _
  have t7:((2:Int)<c7)=False:=eq_false u7;simp only[go_sem,f1,ge_iff_le,gt_iff_lt,f2,q1,q2,q3,q4,q5,t4,t5,t6,t7,A2 (show i<9223372036854775807 by omega)];exact Av (ih (i+1,_,(IntKind.i64.wrap (c4+max x.size 1)),c5,c6,c7) AA h') rfl
 by_cases h3:x.kind=3
 .have q1:(x.kind==1)=false:=by simp[h3]
  have q2:(x.kind==2)=false:=by simp[h3]
  have q3:(x.kind==3)=true:=by simp[h3]
  have q4:(x.kind==4)=false:=by simp[h3]
  have q5:(x.kind==5)=false:=by simp[h3]
  by_cases u4:12<c4
  .have t4:((12:Int)<c4)=True:=eq_true u4;simp only[go_sem,f1,ge_iff_le,gt_iff_lt,f2,q1,q2,q3,q4,q5,t4];refine Af AD ?_;simp only[go_sem];exact qa [] _ _
  have t4:((12:Int)<c4)=False:=eq_false u4;by_cases u5:4<(IntKind.i64.wrap (c5+1))
  .have t5:((4:Int)<(IntKind.i64.wrap (c5+1)))=True:=eq_true u5;simp only[go_sem,f1,ge_iff_le,gt_iff_lt,f2,q1,q2,q3,q4,q5,t4,t5];refine Af AD ?_;simp only[go_sem];exact qa [] _ _
  have t5:((4:Int)<(IntKind.i64.wrap (c5+1)))=False:=eq_false u5;by_cases u6:2<c6
  .have t6:((2:Int)<c6)=True:=eq_true u6;simp only[go_sem,f1,ge_iff_le,gt_iff_lt,f2,q1,q2,q3,q4,q5,t4,t5,t6];refine Af AD ?_;simp only[go_sem];exact qa [] _ _
  have t6:((2:Int)<c6)=False:=eq_false u6;by_cases u7:2<c7
  .have t7:((2:Int)<c7)=True:=eq_true u7;simp only[go_sem,f1,ge_iff_le,gt_iff_lt,f2,q1,q2,q3,q4,q5,t4,t5,t6,t7];refine Af AD ?_;simp only[go_sem];exact qa [] _ _
  have t7:((2:Int)<c7)=False:=eq_false u7;simp only[go_sem,f1,ge_iff_le,gt_iff_lt,f2,q1,q2,q3,q4,q5,t4,t5,t6,t7,A2 (show i<9223372036854775807 by omega)];exact Av (ih (i+1,_,c4,(IntKind.i64.wrap (c5+1)),c6,c7) AA h') rfl
 by_cases h4:x.kind=4
 .have q1:(x.kind==1)=false:=by simp[h4]
  have q2:(x.kind==2)=false:=by simp[h4]
  have q3:(x.kind==3)=false:=by simp[h4]
  have q4:(x.kind==4)=true:=by simp[h4]
  have q5:(x.kind==5)=false:=by simp[h4]
  by_cases u4:12<c4
  .have t4:((12:Int)<c4)=True:=eq_true u4;simp only[go_sem,f1,ge_iff_le,gt_iff_lt,f2,q1,q2,q3,q4,q5,t4];refine Af AD ?_;simp only[go_sem];exact qa [] _ _
  have t4:((12:Int)<c4)=False:=eq_false u4;by_cases u5:4<(IntKind.i64.wrap (c5+1))
  .have t5:((4:Int)<(IntKind.i64.wrap (c5+1)))=True:=eq_true u5;simp only[go_sem,f1,ge_iff_le,gt_iff_lt,f2,q1,q2,q3,q4,q5,t4,t5];refine Af AD ?_;simp only[go_sem];exact qa [] _ _
  have t5:((4:Int)<(IntKind.i64.wrap (c5+1)))=False:=eq_false u5;by_cases u6:2<c6
  .have t6:((2:Int)<c6)=True:=eq_true u6;simp only[go_sem,f1,ge_iff_le,gt_iff_lt,f2,q1,q2,q3,q4,q5,t4,t5,t6];refine Af AD ?_;simp only[go_sem];exact qa [] _ _
  have t6:((2:Int)<c6)=False:=eq_false u6;by_cases u7:2<c7
  .have t7:((2:Int)<c7)=True:=eq_true u7;simp only[go_sem,f1,ge_iff_le,gt_iff_lt,f2,q1,q2,q3,q4,q5,t4,t5,t6,t7];refine Af AD ?_;simp only[go_sem];exact qa [] _ _
  have t7:((2:Int)<c7)=False:=eq_false u7;simp only[go_sem,f1,ge_iff_le,gt_iff_lt,f2,q1,q2,q3,q4,q5,t4,t5,t6,t7,A2 (show i<9223372036854775807 by omega)];exact Av (ih (i+1,_,c4,(IntKind.i64.wrap (c5+1)),c6,c7) AA h') rfl
 by_cases h5:x.kind=5
 .have q1:(x.kind==1)=false:=by simp[h5]
  have q2:(x.kind==2)=false:=by simp[h5]
  have q3:(x.kind==3)=false:=by simp[h5]
  have q4:(x.kind==4)=false:=by simp[h5]
  have q5:(x.kind==5)=true:=by simp[h5]
  by_cases u4:12<c4
  .have t4:((12:Int)<c4)=True:=eq_true u4;simp only[go_sem,f1,ge_iff_le,gt_iff_lt,f2,q1,q2,q3,q4,q5,t4];refine Af AD ?_;simp only[go_sem];exact qa [] _ _
  have t4:((12:Int)<c4)=False:=eq_false u4;by_cases u5:4<c5
  .have t5:((4:Int)<c5)=True:=eq_true u5;simp only[go_sem,f1,ge_iff_le,gt_iff_lt,f2,q1,q2,q3,q4,q5,t4,t5];refine Af AD ?_;simp only[go_sem];exact qa [] _ _
  have t5:((4:Int)<c5)=False:=eq_false u5;by_cases u6:2<(IntKind.i64.wrap (c6+1))
  .have t6:((2:Int)<(IntKind.i64.wrap (c6+1)))=True:=eq_true u6;simp only[go_sem,f1,ge_iff_le,gt_iff_lt,f2,q1,q2,q3,q4,q5,t4,t5,t6];refine Af AD ?_;simp only[go_sem];exact qa [] _ _
  have t6:((2:Int)<(IntKind.i64.wrap (c6+1)))=False:=eq_false u6;by_cases u7:2<c7
  .have t7:((2:Int)<c7)=True:=eq_true u7;simp only[go_sem,f1,ge_iff_le,gt_iff_lt,f2,q1,q2,q3,q4,q5,t4,t5,t6,t7];refine Af AD ?_;simp only[go_sem];exact qa [] _ _
  have t7:((2:Int)<c7)=False:=eq_false u7;simp only[go_sem,f1,ge_iff_le,gt_iff_lt,f2,q1,q2,q3,q4,q5,t4,t5,t6,t7,A2 (show i<9223372036854775807 by omega)];refine Af AD ?_;simp only[go_sem,qf];refine Bf ho AB ?_;by_cases g3:0<=Bx (fun d:Dp=>d.nm==x.on) (l.take i)
  .have g4:=(Afh (fun d:Dp=>d.nm==x.on) (l.take i)).2;obtain⟨k,hk⟩:∃ k:Nat,Bx (fun d:Dp=>d.nm==x.on) (l.take i)=k:=⟨_,(Aif g3).symm⟩;rw[hk,Iq]at g4;obtain⟨y,hy,-,-⟩:=Br (l:=l) (i:=k) AA;have jt:y.row=[iV y.kind,iV y.line,.str y.nm,iV y.size,iV y.init,.str y.on]:=rfl;have f3:((k:Int)<0)=False:=eq_false AA;rw[hk];cases q3b:(y.kind==3)
   .simp only[go_sem,f3,Au,hy,jt,q3b,bne,A1];refine Af AD ?_;simp only[go_sem];exact qa [] _ _
   .simp only[go_sem,f3,Au,hy,jt,q3b,bne,Ay,A2 (show i<9223372036854775807 by omega)];exact Av (ih (i+1,_,c4,c5,(IntKind.i64.wrap (c6+1)),c7) AA h') rfl
  .rw[Ay6 g3];simp only[go_sem,Int.reduceLT,Int.reduceNeg];refine Af AD ?_;simp only[go_sem];exact qa [] _ _
 have q1:(x.kind==1)=false:=by simp[h1]
 have q2:(x.kind==2)=false:=by simp[h2]
 have q3:(x.kind==3)=false:=by simp[h3]
 have q4:(x.kind==4)=false:=by simp[h4]
 have q5:(x.kind==5)=false:=by simp[h5]
 by_cases u4:12<c4
 .have t4:((12:Int)<c4)=True:=eq_true u4;simp only[go_sem,f1,ge_iff_le,gt_iff_lt,f2,q1,q2,q3,q4,q5,t4];refine Af AD ?_;simp only[go_sem];exact qa [] _ _
 have t4:((12:Int)<c4)=False:=eq_false u4;by_cases u5:4<c5
 .have t5:((4:Int)<c5)=True:=eq_true u5;simp only[go_sem,f1,ge_iff_le,gt_iff_lt,f2,q1,q2,q3,q4,q5,t4,t5];refine Af AD ?_;simp only[go_sem];exact qa [] _ _
 have t5:((4:Int)<c5)=False:=eq_false u5;by_cases u6:2<c6
 .have t6:((2:Int)<c6)=True:=eq_true u6;simp only[go_sem,f1,ge_iff_le,gt_iff_lt,f2,q1,q2,q3,q4,q5,t4,t5,t6];refine Af AD ?_;simp only[go_sem];exact qa [] _ _
 have t6:((2:Int)<c6)=False:=eq_false u6;by_cases u7:2<(IntKind.i64.wrap (c7+1))
 .have t7:((2:Int)<(IntKind.i64.wrap (c7+1)))=True:=eq_true u7;simp only[go_sem,f1,ge_iff_le,gt_iff_lt,f2,q1,q2,q3,q4,q5,t4,t5,t6,t7];refine Af AD ?_;simp only[go_sem];exact qa [] _ _
 have t7:((2:Int)<(IntKind.i64.wrap (c7+1)))=False:=eq_false u7;simp only[go_sem,f1,ge_iff_le,gt_iff_lt,f2,q1,q2,q3,q4,q5,t4,t5,t6,t7,A2 (show i<9223372036854775807 by omega)];exact Av (ih (i+1,_,c4,c5,c6,(IntKind.i64.wrap (c7+1))) AA h') rfl
set_option maxHeartbeats 4000000 in
def A3d{p:Gp}(hp:LnG p):∃ v,Fn TT PT 67 [.agg p.row] v/\Za v:=by
 obtain⟨dz,dt,decls,tz,tt,thrs⟩:=p;obtain⟨h1,h2,h3⟩:=hp;simp only at h1 h2 h3 ⊢;unfold Gp.row;simp only;have n1:(decls.map Dp.row).length=decls.length:=Ar ..;have n2:(thrs.map Tp.row).length=thrs.length:=Ar ..;refine Pe T67 rfl ?_;have qa:∀ (s:St) (e ln:Int),∃ v,some (V.tup [iV e,iV ln])=some v/\(Ci v=true/\v.refs=[]/\Ed [] v=some v)/\Za v:=fun _ e ln=>⟨_,rfl,⟨rfl,rfl,rfl⟩,e,ln,rfl⟩
 simp only[go_sem];refine Bk (α:=Nat × St) (fun a=>thrs.length - a.1) (fun a=>[(1,.ptr 0 0 0),(4,iV (a.1:Int))]) (fun a=>a.2) (fun a=>a.1<=thrs.length/\a.2[0]?=some (.row [SL dz dt (decls.map Dp.row),SL tz tt (thrs.map Tp.row)] 29 0 0)) ?_ (0,_) ⟨Ax _,rfl⟩;rintro⟨i,s⟩ ⟨hi,hs⟩ ih;simp only at hi hs ih;refine Bd Bpm ?_;rcases Bh i thrs.length with h' | h'
 .obtain⟨x,hx,-,-⟩:=Br h';have qe:x.row=(tR x):=rfl;obtain⟨s',qi⟩:∃ s',s'=s++[tO x]:=⟨_,rfl⟩;have k1:s'[s.length]?=some (tO x):=by rw[qi,F6 (Aj _),Is];rfl
  have k0:s'[0]?=some (.row [SL dz dt (decls.map Dp.row),SL tz tt (thrs.map Tp.row)] 29 0 0):=by rw[qi];exact By hs
  have hd:=X9 dz dt decls x.nm AA;obtain⟨z2,t2,qf⟩:=Xd tz tt 4 (thrs.map Tp.row) .i64 i AA;rw[<-W4]at qf;have ht:=Agg z2 t2 (thrs.take i) x.nm (by grind);simp only[go_sem,hs,n2,Az h',Au,hx,qe];rw[<-qi];refine Af AD ?_;simp only[go_sem,k0,k1];refine Bf hd AB ?_;by_cases g1:0<=Bx (fun d:Dp=>d.nm==x.nm) decls
  .have f1:(0<=Bx (fun d:Dp=>d.nm==x.nm) decls)=True:=eq_true g1;simp only[go_sem,f1,ge_iff_le];refine Af AD ?_;simp only[go_sem,k1];exact qa [] _ _
  have f1:(0<=Bx (fun d:Dp=>d.nm==x.nm) decls)=False:=eq_false g1;simp only[go_sem,f1,ge_iff_le,k0,k1,qf];refine Bf ht AB ?_;by_cases g2:0<=Bx (fun d:Tp=>d.nm==x.nm) (thrs.take i)
  .have f2:(0<=Bx (fun d:Tp=>d.nm==x.nm) (thrs.take i))=True:=eq_true g2;simp only[go_sem,f2,ge_iff_le];refine Af AD ?_;simp only[go_sem,k1];exact qa [] _ _
  have f2:(0<=Bx (fun d:Tp=>d.nm==x.nm) (thrs.take i))=False:=eq_false g2;simp only[go_sem,f2,ge_iff_le,A2 (show i<9223372036854775807 by omega)];exact Av (ih (i+1,s') AA ⟨h',k0⟩) rfl
 simp only[go_sem,hs,n2,Bl h'];clear ih;refine Bk (α:=Nat × St) (fun a=>thrs.length - a.1) (fun a=>[(1,.ptr 0 0 0),(6,iV (a.1:Int))]) (fun a=>a.2) (fun a=>a.1<=thrs.length/\a.2[0]?=some (.row [SL dz dt (decls.map Dp.row),SL tz tt (thrs.map Tp.row)] 29 0 0)) ?_ (0,s) ⟨Ax _,hs⟩;clear hs hi h' i s;rintro⟨i,s⟩ ⟨hi,hs⟩ ih;simp only at hi hs ih;refine Bd Bpo ?_;rcases Bh i thrs.length with h' | h';rotate_left
 .simp only[go_sem,hs,n2,Bl h'];exact qa [] _ _
 obtain⟨x,hx,-,hm⟩:=Br h';have jF:=h3 x hm;have n3:(x.locals.map fun s=>[V.str s]).length=x.locals.length:=Ar ..;have qe:x.row=(tR x):=rfl;obtain⟨s',qi⟩:∃ s',s'=s++[tO x]:=⟨_,rfl⟩;have k1:s'[s.length]?=some (tO x):=by rw[qi,F6 (Aj _),Is];rfl
 have k0:s'[0]?=some (.row [SL dz dt (decls.map Dp.row),SL tz tt (thrs.map Tp.row)] 29 0 0):=by rw[qi];exact By hs
 by_cases g4:4<x.locals.length
 .have f4:((4:Int)<(x.locals.length:Int))=True:=eq_true AA;simp only[go_sem,hs,n2,Az h',Au,hx,qe];rw[<-qi];simp only[go_sem,k1,n3,gt_iff_lt,f4];refine Af AD ?_;simp only[go_sem,k1];exact qa [] _ _
 have f4:((4:Int)<(x.locals.length:Int))=False:=eq_false AA;simp only[go_sem,hs,n2,Az h',Au,hx,qe];rw[<-qi];simp only[go_sem,k1,n3,gt_iff_lt,f4];refine Bk (α:=Nat) (fun k=>x.locals.length - k) (fun k=>[(1,.ptr 0 0 0),(6,iV (i:Int)),(7,.ptr s.length 0 0),(8,iV (k:Int))]) (fun _=>s') (fun k=>k<=x.locals.length) ?_ 0 (Ax _);rintro k hk jh;refine Bd Bpn ?_;rcases Bh k x.locals.length with g' | g';rotate_left
 .simp only[go_sem,k1,n3,Bl g',A2 (show i<9223372036854775807 by omega)];exact Av (ih (i+1,s') AA ⟨h',k0⟩) rfl
 obtain⟨y,hy,-,-⟩:=Br g';have hd:=X9 dz dt decls y AA;have ht:=Agg tz tt thrs y AA;obtain⟨z2,t2,qf⟩:=Xd x.lz x.lt 1 (x.locals.map fun s=>[V.str s]) .i64 k AA;rw[<-W4]at qf;have ha:=X8 z2 t2 (x.locals.take k) y (by grind);simp only[go_sem,k1,k0,n3,Az g',Au,hy];refine Ab hd AB ?_;by_cases g1:0<=Bx (fun d:Dp=>d.nm==y) decls
 .have f1:(0<=Bx (fun d:Dp=>d.nm==y) decls)=True:=eq_true g1;simp only[go_sem,f1,ge_iff_le];refine Af AD ?_;simp only[go_sem,k1];exact qa [] _ _
 have f1:(0<=Bx (fun d:Dp=>d.nm==y) decls)=False:=eq_false g1;simp only[go_sem,f1,ge_iff_le,k0,k1];refine Ab ht AB ?_;by_cases g2:0<=Bx (fun d:Tp=>d.nm==y) thrs
 .have f2:(0<=Bx (fun d:Tp=>d.nm==y) thrs)=True:=eq_true g2;simp only[go_sem,f2,ge_iff_le];refine Af AD ?_;simp only[go_sem,k1];exact qa [] _ _
 have f2:(0<=Bx (fun d:Tp=>d.nm==y) thrs)=False:=eq_false g2;simp only[go_sem,f2,ge_iff_le,k1,qf];refine Ab ha AB ?_;by_cases g3:0<=Bx (·==y) (x.locals.take k)
 .have f3:(0<=Bx (·==y) (x.locals.take k))=True:=eq_true g3;simp only[go_sem,f3,ge_iff_le];refine Af AD ?_;simp only[go_sem,k1];exact qa [] _ _
 have f3:(0<=Bx (·==y) (x.locals.take k))=False:=eq_false g3;simp only[go_sem,f3,ge_iff_le,A2 (show k<9223372036854775807 by omega)];exact Av (jh (k+1) AA g') rfl
def Amy{p:Gp}(hp:LnG p):∀ (N:Nat) (l:List Sp),Cy (l.map Sp.row)<=N->N<=1000000000->Ahy p l
 | 0,l,h,hN=>Auo hp AA fun x hx=>by
  have h1:=J9 (f:=Sp.row) hx;have h2:=N9 x;omega
 | N+1,l,h,hN=>Auo hp AA fun x hx=>by
  have h1:=J9 (f:=Sp.row) hx;have h2:=N9 x;exact⟨Amy hp N x.body AA AA,Amy hp N x.els AA AA⟩
def Oo(l:List Tp):Nat:=(l.map fun t=>Sp.szs t.body).sum
set_option maxHeartbeats 4000000 in
def Baf{p:Gp}(hb:C3 p.row<=1000000000)(hp:LnG p)(hz:Oo p.thrs<=1000000):∃ v,Fn TT PT 36 [.agg p.row] v/\Za v:=by
 have hs:=Bkv p hb;have kb:=Anw p;obtain⟨_,qd,ed,ld,rfl⟩:=A6o p.dz p.dt p.decls hp.d;obtain⟨_,qt,et,lt,rfl⟩:=A3d hp;have qG:=Ahc p;have n2:(p.thrs.map Tp.row).length=p.thrs.length:=Ar ..;have ht:=hp.t;obtain⟨jL,jM⟩:=Be9 qG;rw[Wb]at hs qt qG ⊢;have qa:∀ (s:St) (e ln:Int),∃ v,some (V.tup [iV e,iV ln])=some v/\(Ci v=true/\v.refs=[]/\Ed [] v=some v)/\Za v:=fun _ e ln=>⟨_,rfl,⟨rfl,rfl,rfl⟩,e,ln,rfl⟩
 refine Pe T36 rfl ?_;cases hsh:shG p
 .rw[hsh]at hs;simp only[go_sem];refine Ab hs AB ?_;simp only[go_sem,A1];exact qa [] _ _
 rw[hsh]at hs;simp only[go_sem];refine Ab hs AB ?_;simp only[go_sem,Ay];refine Ab qd AB ?_;cases y1:(ed==0)
 .simp only[go_sem,y1,bne,A1];exact qa [] _ _
 by_cases g1:4<p.thrs.length
 .have f1:((4:Int)<(p.thrs.length:Int))=True:=eq_true AA;simp only[go_sem,y1,bne,Ay,n2,gt_iff_lt,f1];exact qa [] _ _
 have f1:((4:Int)<(p.thrs.length:Int))=False:=eq_false AA;simp only[go_sem,y1,bne,Ay,n2,gt_iff_lt,f1];refine Ab qt AB ?_;cases y2:(et==0)
 .simp only[go_sem,y2,bne,A1];exact qa [] _ _
 simp only[go_sem,y2,bne,Ay];refine Bk (α:=Nat × Int) (fun a=>p.thrs.length - a.1) (fun a=>[(1,.ptr 0 0 0),(8,iV a.2),(9,iV (a.1:Int))]) (fun _=>[gO p]) (fun a=>a.1<=p.thrs.length) ?_ (0,0) (Ax _);rintro⟨i,n⟩ hi ih;simp only at hi ih;refine Bd Bo7 ?_;rcases Bh i p.thrs.length with h' | h'
 .obtain⟨x,hx,-,hm⟩:=Br h';have qX:=J9 (f:=Tp.row) hm;rw[Ab1]at qX;have qe:x.row=(tR x):=rfl;obtain⟨_,qc,c,rfl⟩:=Akv 1000000000 x.bz x.bt x.body AA (Aj _);simp only[go_sem,n2,Az h',Au,hx,qe];refine Ab qc AB ?_;simp only[go_sem,A2 (show i<9223372036854775807 by omega)];exact Av (ih (i+1,_) AP h') rfl
 clear ih;by_cases g2:60<n
 .have f2:((60:Int)<n)=True:=eq_true g2;simp only[go_sem,n2,Bl h',gt_iff_lt,f2];exact qa [] _ _
 have f2:((60:Int)<n)=False:=eq_false g2;simp only[go_sem,n2,Bl h',gt_iff_lt,f2,jL,jM]
 have jj:WK [gO p,Fa p 0 .nils .nils .nils] 1 p 0 .nils .nils .nils (([]:List Sp).map Sp.row) (([]:List (List UInt8)).map fun x=>[V.str x]) (([]:List (List UInt8)).map fun x=>[V.str x]):=by
  refine⟨rfl,Abd,Abd,Abd,by simp[V.refs],by simp[V.refs],by simp[V.refs],?_⟩;intro ob hm j hj;simp only[Bp,L8,or_false]at hm;rcases hm with rfl | rfl
  .simp[Ob.refs,Ag,O4]at hj
  .simp[Ob.refs,Ag,O4,V.refs]at hj
 refine Bk (α:=Nat × St × Int × V × V × V × List (List UInt8) × List (List UInt8)) (fun a=>p.thrs.length - a.1) (fun a=>[(1,.ptr 0 0 0),(10,.ptr 1 0 0),(11,iV (a.1:Int))]) (fun a=>a.2.1)
  (fun a=>a.1<=p.thrs.length/\WK a.2.1 1 p a.2.2.1 a.2.2.2.1 a.2.2.2.2.1 a.2.2.2.2.2.1 (([]:List Sp).map Sp.row) (a.2.2.2.2.2.2.1.map fun x=>[V.str x]) (a.2.2.2.2.2.2.2.map fun x=>[V.str x])/\(a.2.1[0]?=some (gO p)/\0 ∉ fp a.2.1 1)/\a.2.2.2.2.2.2.1.length+Oo (p.thrs.drop a.1)<=1000000/\a.2.2.2.2.2.2.2.length+Oo (p.thrs.drop a.1)<=1000000) ?_ (0,_,0,_,_,_,[],[]) ⟨Ax _,jj,⟨rfl,by rw[Uc jj];simp[V.refs]⟩,by simpa using hz,by simpa using hz⟩
 clear jj hi h' i g2 f2 n;rintro⟨i,s,th,uA,uS,uT,S,T⟩ ⟨hi,h1,⟨qx,jb⟩,hS,hT⟩ ih;simp only at hi h1 qx jb hS hT ih;refine Bd Bo8 ?_;rcases Bh i p.thrs.length with h' | h';rotate_left
 .simp only[go_sem,qx,n2,Bl h'];exact qa [] _ _
 obtain⟨x,hx,hd,hm⟩:=Br h';have qX:=J9 (f:=Tp.row) hm;rw[Ab1]at qX;have qe:x.row=(tR x):=rfl;have jK:Oo (p.thrs.drop i)=Sp.szs x.body+Oo (p.thrs.drop (i+1)):=by rw[hd];simp[Oo]
 obtain⟨h2,f2⟩:=Abk (th':=(i:Int)) h1 (Aj _) (fun _ _ _ _ _=>rfl) h1.a h1.s h1.t (fun j hj=>.inl hj) (fun j hj=>.inl hj) (fun j hj=>.inl hj) (fun j hj=>(h1.ad j hj).2) (fun j hj=>(h1.sd j hj).2) h1.cl;obtain⟨_,s2,q,⟨e,ln,rfl,vA,vS,vT,S2,T2,h3,f3,bS,bT⟩⟩:=Amy hp 1000000000 x.body AA (Aj _) _ _ _ _ _ _ [] S T x.bz x.bt h2 AE AA AA;have hr:=h1.row;have jl:=Fv f2 f3;have l0:=(Ao.1 qx).1;have k2:s2[0]?=_:=(jl.2.1 0 l0 jb).trans qx;have k1:(s.set 1 (Fa p (i:Int) uA uS uT))[0]?=some (gO p):=by rw[Ce AA];exact qx
 have jH:0 ∉ fp s2 1:=fun hm=>by
  rcases jl.2.2 0 hm with h4 | h4
  .exact jb h4
  .omega
 simp only[go_sem,qx,n2,Az h',hr,k1,Au,hx,qe];refine Ca q ?_;cases y3:(e==0)
 .simp only[go_sem,y3,bne,A1];exact qa [] _ _
 simp only[go_sem,y3,bne,Ay,A2 (show i<9223372036854775807 by omega)];exact Av (ih (i+1,s2,_,vA,vS,vT,S2,T2) AP ⟨h',h3,⟨k2,jH⟩,by simp only;omega,by simp only;omega⟩) rfl
