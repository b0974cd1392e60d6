/- Walks: one statement as the static rules see it. -/
import Derived.Test.YtphikjgngompaacGreatDoorVa
import Derived.Test.YtphikjgngompaacGreatDoorLi
set_option linter.all false
namespace Go.Proofs.YtphikjgngompaacGreatDoor.KM
open Go
def rdP{s:St}{ob k off n x:Nat}{cs vs:List V}{e:Env}(q:s[ob]?=some (.row cs k 0 0))(he:e.get x=.ptr ob 0 off)(hl:off+n<=cs.length)(hv:(cs.drop off).take n=vs):Af (.load n false (.t x)) e s=some (.agg vs,s):=by
 simp only[Af,Ac,he,H3,q];rw[if_pos ⟨trivial,hl⟩,hv];rfl
def Pi{v:V}(h:v.cellB=true):v.cells=[v]/\[v].all V.cellB=true:=⟨by cases v<;>simp[V.cellB]at h<;>rfl,by grind⟩
def Al1{σ:St}{u:V}{L:List (List UInt8)}(h:GS σ 1 9 u (L.map fun x=>[V.str x])):∃ z,OV σ u (SL z 0 (L.map fun x=>[V.str x])):=by
 grind[Alm,N8,J0]
def Azo(w:Nat)(p:Gp)(th:Int)(uA:V)(A:List (List V))(S T:List (List UInt8))(σ:St)(v:V)(σ':St):Prop:=∃ e:Int,v=iV e/\∃ (vS vT:V) (S' T':List (List UInt8)),WK σ' w p th uA vS vT A (S'.map fun x=>[V.str x]) (T'.map fun x=>[V.str x])/\FW w σ σ'/\S'.length<=S.length+1/\T'.length<=T.length+1
set_option maxHeartbeats 8000000 in
def Bg8{σ:St}{w:Nat}{p:Gp}{th:Int}{uA uS uT:V}{X:List Sp}{S T:List (List UInt8)}(h:WK σ w p th uA uS uT (X.map Sp.row) (S.map fun x=>[V.str x]) (T.map fun x=>[V.str x]))(hp:LnG p)(hX:X.length<=1000000)(hS:S.length<=1000000)(hT:T.length<=1000000)(x:Sp)(hx:C6 x.row<=1000000000):
  ∃ v σ',Th TT PT 122 [.ptr w 0 0,.agg x.row] σ v σ'/\Azo w p th uA (X.map Sp.row) S T σ v σ':=by
 obtain⟨op,line,nm,arg,iz,it,idx,ex,bz,bt,body,ez,et,els⟩:=x;have qY:=hx;rw[Ng]at qY;simp only at qY;have qy:=He ⟨op,line,nm,arg,iz,it,idx,ex,bz,bt,body,ez,et,els⟩;rw[Fr]at qy ⊢;simp only at qy ⊢;obtain⟨_,jy,jT,rfl,-⟩:=Of hp th nm 8 1;obtain⟨_,jx,jR,rfl,-⟩:=Of hp th nm 2 2;obtain⟨_,jg,ju,rfl,-⟩:=Of hp th nm 3 3;obtain⟨_,qI,qS,rfl,-⟩:=Of hp th nm 4 4;obtain⟨_,qv,qq,rfl,qU⟩:=Of hp th nm 5 5;obtain⟨_,qA,qz,rfl,-⟩:=Of hp th nm 7 7;obtain⟨_,ji,jv,rfl,-⟩:=Of hp th nm 6 6;obtain⟨_,jz,jU,rfl,-⟩:=Of hp th nm 8 8;obtain⟨_,jk,jV,rfl,-⟩:=Of hp th arg 6 6;obtain⟨_,q0,e0,rfl⟩:=Ar8 hp th ex AA;have jw:=Aer p.tz p.tt p.thrs nm (by have:=hp.t;omega);have qw:=Wt p.dz p.dt p.decls nm (by have:=hp.d;omega);rw[U1]at jy jx jg qI qv qA ji jz jk q0;rw[Bi]at q0;have qG:=Afr p;rw[U1]at qG;have hw:=Sv h;refine Ajv T122 rfl ?_;refine Ge (fun e s=>e=[(0,.ptr w 0 0),(3,.ptr σ.length 0 0)]/\s=σ++[sO op line nm arg iz it idx ex.op ex.n ex.nm ex.z ex.t ex.l bz bt body ez et els]) (fun k' hk=>?_) ?_
 .simp only[go_sem];exact hk _ _ ⟨rfl,rfl⟩
 rintro e s ⟨rfl,rfl⟩;refine Ge (fun e s=>∃ n m:Nat,e=[(0,.ptr w 0 0),(3,.ptr n 0 0),(5,.ptr m 0 0),(6,iV th)]/\(WK s w p th uA uS uT (X.map Sp.row) (S.map fun x=>[V.str x]) (T.map fun x=>[V.str x])/\FW w σ s)/\(σ.length<=n/\σ.length<=m)/\s[n]?=some (sO op line nm arg iz it idx ex.op ex.n ex.nm ex.z ex.t ex.l bz bt body ez et els)/\s[m]?=some (gO p)) (fun k' hk=>?_) ?_
 .have qK:=h.row;have hr:=Bt (l:=[sO op line nm arg iz it idx ex.op ex.n ex.nm ex.z ex.t ex.l bz bt body ez et els]) h.row;have jC:Cl (σ++[sO op line nm arg iz it idx ex.op ex.n ex.nm ex.z ex.t ex.l bz bt body ez et els]):=Jf h.cl qy;have jD:Cl (σ++[sO op line nm arg iz it idx ex.op ex.n ex.nm ex.z ex.t ex.l bz bt body ez et els]++[gO p]):=Jf jC qG;rw[Dm]at jD;refine Ad AD ?_;simp only[go_sem,hr];refine Bd (h2:=⟨.inr ⟨rd1 hr rfl rfl,rd1 (Bt qK) rfl rfl⟩,.inr ⟨rdP hr rfl (Nat.le_of_ble_eq_true rfl) rfl,rdP (Bt qK) rfl (Nat.le_of_ble_eq_true rfl) rfl⟩,trivial⟩) ?_;simp only[go_sem];refine Bd (h2:=⟨.inr ⟨rd1 (Bt qK) rfl rfl,rd1 (Bt qK) rfl rfl⟩,.inl rfl,trivial⟩) ?_;simp only[go_sem];refine hk _ _ ⟨σ.length,σ.length+1,by grind,?_,?_,?_,?_⟩
  .grind[Auq,Ajk]
  .omega
  .simp
  .simp
 rintro e s ⟨n,m,rfl,⟨h1,f1⟩,⟨hn,hm⟩,k3,k5⟩;have hr:=h1.row;refine Ge (fun e s'=>s'=s/\∃ tx,e=[(0,.ptr w 0 0),(3,.ptr n 0 0),(5,.ptr m 0 0),(6,iV th),(7,.bool tx)]) (fun k' hk=>?_) ?_
 .obtain⟨_,i1,z1,rfl⟩:=Qm h1 AA 7 7 [];simp only[go_sem];refine Bv i1 ?_;simp only[go_sem];exact hk _ _ ⟨rfl,_,rfl⟩
 rintro e s' ⟨qi,tx,rfl⟩;obtain rfl:=qi.symm;refine Ge (fun e s'=>s'=s/\∃ ao,e=[(0,.ptr w 0 0),(3,.ptr n 0 0),(5,.ptr m 0 0),(6,iV th),(7,.bool tx),(8,.bool ao)]) (fun k' hk=>?_) ?_
 .obtain⟨_,i1,z1,rfl⟩:=Qm h1 AA 8 8 [];simp only[go_sem];refine Bv i1 ?_;simp only[go_sem];exact hk _ _ ⟨rfl,_,rfl⟩
 rintro e s' ⟨qi,ao,rfl⟩;obtain rfl:=qi.symm;refine Ge (fun e s'=>s'=s/\∃ lp,e=[(0,.ptr w 0 0),(3,.ptr n 0 0),(5,.ptr m 0 0),(6,iV th),(7,.bool tx),(8,.bool ao),(9,.bool lp)]) (fun k' hk=>?_) ?_
 .obtain⟨_,i1,z1,rfl⟩:=Qm h1 AA 3 3 [];simp only[go_sem];refine Bv i1 ?_;simp only[go_sem];exact hk _ _ ⟨rfl,_,rfl⟩
 rintro e s' ⟨qi,lp,rfl⟩;obtain rfl:=qi.symm
 have qj:∀ j,σ.length<=j->j ∉ fp s w:=fun j hj hm=>by
  rw[Sw h1]at hm;have g1:=Sw h;simp only[B7,Cs]at hm;rcases hm with rfl | hm | hm | hm
  .omega
  .have:=C0 h.a j hm;omega
  .have:=C0 h.s j hm;omega
  .have:=C0 h.t j hm;omega
 have qa:∀ r:Int,∃ v,some (iV r)=some v/\(Cd v=true/\v.refs=[])/\(σ.length<=s.length/\Cl s)/\Azo w p th uA (X.map Sp.row) S T σ v s:=fun r=>⟨_,rfl,⟨rfl,rfl⟩,⟨f1.1,h1.cl⟩,r,rfl,_,_,S,T,h1,f1,by omega,by omega⟩
 by_cases o1:op=1
 .subst o1
  cases idx with
  | nil=>
   obtain⟨_,oq,r2,rfl⟩:=Hb jT e0;simp only[go_sem,Int.reduceBEq,k3,k5,hr,B0,Dn];refine Ad AD ?_;simp only[go_sem,Int.reduceBEq,k3,k5,hr];refine Ax jy AB ?_;simp only[go_sem,Int.reduceBEq,k3,k5,hr];refine Ax q0 AB ?_;simp only[go_sem,Int.reduceBEq,k3,k5,hr];refine Ax oq AB ?_;simp only[go_sem];exact qa _
  | cons a r=>
   have ka:=Jy (f:=Xp.row) (l:=a::r) (x:=a) AE;obtain⟨_,q1,e1,rfl⟩:=Ar8 hp th a AA;rw[U1,Bi]at q1;have jG:((r.length:Int)+1==0)=false:=by simp;omega
   have ja:(((r.length+1:Nat):Int)==0)=false:=by simp;omega
   have jn:=Bi a;obtain⟨_,oq,r2,rfl⟩:=Hb e1 e0;obtain⟨_,jc,r3,rfl⟩:=Hb jR r2;simp only[go_sem,Int.reduceBEq,k3,k5,hr,Bh,Be,Av,jG,ja];refine Ad AD ?_;simp only[go_sem,Int.reduceBEq,k3,k5,hr,Bh,Te,jn];refine Ax jx AB ?_;simp only[go_sem,Int.reduceBEq,k3,k5,hr,Bh,Te,jn];refine Ax q1 AB ?_;simp only[go_sem,Int.reduceBEq,k3,k5,hr];refine Ax q0 AB ?_;simp only[go_sem,Int.reduceBEq,k3,k5,hr];refine Ax oq AB ?_;simp only[go_sem,Int.reduceBEq,k3,k5,hr];refine Ax jc AB ?_;simp only[go_sem];exact qa _
 have o1:(op==1)=false:=by simp[o1]
 by_cases o2:op=2
 .subst o2;simp only[go_sem,Int.reduceBEq,k3,k5,hr];refine Ab q0 AB ?_;simp only[go_sem];exact qa _
 have o2:(op==2)=false:=by simp[o2]
 by_cases o3:op=3
 .subst o3;simp only[go_sem,Int.reduceBEq,k3,k5,hr];refine Ab q0 AB ?_;simp only[go_sem];exact qa _
 have o3:(op==3)=false:=by simp[o3]
 by_cases o4:op=4
 .subst o4;cases tx
  .obtain⟨_,i1,z1,rfl⟩:=Qm h1 AA 4 4 nm;obtain⟨_,nq,r1,rfl⟩:=Ho z1;obtain⟨_,oq,r2,rfl⟩:=Hb ju r1;simp only[go_sem,Int.reduceBEq,k3,k5,hr];refine Ab jg AB ?_;simp only[go_sem,Int.reduceBEq,k3,k5,hr];refine Bv i1 ?_;simp only[go_sem,Int.reduceBEq,k3,k5,hr];refine Ab nq AB ?_;simp only[go_sem];refine Ab oq AB ?_;simp only[go_sem];exact qa _
  .obtain⟨_,nq,r1,rfl⟩:=Ho true;obtain⟨_,oq,r2,rfl⟩:=Hb ju r1;simp only[go_sem,Int.reduceBEq,k3,k5,hr];refine Ab jg AB ?_;simp only[go_sem,Int.reduceBEq,k3,k5,hr];refine Ab nq AB ?_;simp only[go_sem];refine Ab oq AB ?_;simp only[go_sem];exact qa _
 have o4:(op==4)=false:=by simp[o4]
 by_cases o5:op=5
 .subst o5;cases tx
  .obtain⟨_,i1,z1,rfl⟩:=Qm h1 AA 5 6 nm;obtain⟨_,nq,r1,rfl⟩:=Ho z1;obtain⟨_,oq,r2,rfl⟩:=Hb qS r1;simp only[go_sem,Int.reduceBEq,k3,k5,hr];refine Ab qI AB ?_;simp only[go_sem,Int.reduceBEq,k3,k5,hr];refine Bv i1 ?_;simp only[go_sem,Int.reduceBEq,k3,k5,hr];refine Ab nq AB ?_;simp only[go_sem];refine Ab oq AB ?_;simp only[go_sem];exact qa _
  .obtain⟨_,nq,r1,rfl⟩:=Ho true;obtain⟨_,oq,r2,rfl⟩:=Hb qS r1;simp only[go_sem,Int.reduceBEq,k3,k5,hr];refine Ab qI AB ?_;simp only[go_sem,Int.reduceBEq,k3,k5,hr];refine Ab nq AB ?_;simp only[go_sem];refine Ab oq AB ?_;simp only[go_sem];exact qa _
 have o5:(op==5)=false:=by simp[o5]
 by_cases o6:op=6
 .subst o6;cases tx
  .obtain⟨_,i1,z1,rfl⟩:=Qm h1 AA 5 6 nm;obtain⟨_,nq,r1,rfl⟩:=Ho z1;obtain⟨_,oq,r2,rfl⟩:=Hb qS r1;simp only[go_sem,Int.reduceBEq,k3,k5,hr];refine Ab qI AB ?_;simp only[go_sem,Int.reduceBEq,k3,k5,hr];refine Bv i1 ?_;simp only[go_sem,Int.reduceBEq,k3,k5,hr];refine Ab nq AB ?_;simp only[go_sem];refine Ab oq AB ?_;simp only[go_sem];exact qa _
  .obtain⟨_,nq,r1,rfl⟩:=Ho true;obtain⟨_,oq,r2,rfl⟩:=Hb qS r1;simp only[go_sem,Int.reduceBEq,k3,k5,hr];refine Ab qI AB ?_;simp only[go_sem,Int.reduceBEq,k3,k5,hr];refine Ab nq AB ?_;simp only[go_sem];refine Ab oq AB ?_;simp only[go_sem];exact qa _
 have o6:(op==6)=false:=by simp[o6]
 by_cases o7:op=7
 .subst o7;obtain⟨_,nq,r1,rfl⟩:=Ho tx;simp only[go_sem,Int.reduceBEq,k3,k5,hr];refine Ab nq AB ?_;simp only[go_sem];exact qa _
 have o7:(op==7)=false:=by simp[o7]
 by_cases o8:op=8
 .subst o8;cases tx
  .obtain⟨_,nq,r1,rfl⟩:=Ho ao;simp only[go_sem,Int.reduceBEq,k3,k5,hr];refine Ab nq AB ?_;simp only[go_sem];exact qa _
  .obtain⟨_,nq,r1,rfl⟩:=Ho true;simp only[go_sem,Int.reduceBEq,k3,k5,hr];refine Ab nq AB ?_;simp only[go_sem];exact qa _
 have o8:(op==8)=false:=by simp[o8]
 by_cases o9:op=9
 .subst o9;by_cases z5:qq=0;rotate_left
  .have y5:(qq==0)=false:=by simp[z5]
   simp only[go_sem,Int.reduceBEq,k3,k5,hr];refine Ab qv AB ?_;simp only[go_sem,Int.reduceBEq,k3,k5,hr,y5,bne,Bc];exact qa _
  have y5:(qq==0)=true:=by simp[z5]
  obtain⟨i,d,di,hd,jo⟩:=Adz (qU rfl rfl z5)
  rw[di]at qw
  have qD:d.row=[iV d.kind,iV d.line,.str d.nm,iV d.size,iV d.init,.str d.on]:=rfl;obtain⟨_,i1,z1,rfl⟩:=Qm h1 AA 4 4 d.on;simp only[go_sem,Int.reduceBEq,k3,k5,hr];refine Ab qv AB ?_;simp only[go_sem,Int.reduceBEq,k3,k5,hr,y5,bne,Ba];refine Ad AD ?_;simp only[go_sem,Int.reduceBEq,k3,k5,hr];refine Ax qw AB ?_;simp only[go_sem,Int.reduceBEq,k3,k5,hr,Ak,hd,qD];refine Z1 i1 (by repeat (first | exact trivial | refine⟨.inl AH,?_⟩ | refine⟨by rfl,?_⟩ | refine⟨.inr ⟨by rfl,by rfl⟩,?_⟩)) (by repeat (first | exact trivial | refine⟨.inl AH,?_⟩ | refine⟨by rfl,?_⟩ | refine⟨.inr ⟨by rfl,by rfl⟩,?_⟩ | refine⟨.inr ⟨by(first | exact J9 rfl rfl | exact Eu rfl ⟨_,_,by assumption,by rfl⟩ | exact Eu rfl ⟨_,_,Bt AL,by rfl⟩ | exact Ew AL rfl AH | exact Ew (Bt AL) rfl AH),by(first | exact J9 rfl rfl | exact Eu rfl ⟨_,_,by assumption,by rfl⟩ | exact Eu rfl ⟨_,_,Bt AL,by rfl⟩ | exact Ew AL rfl AH | exact Ew (Bt AL) rfl AH)⟩,?_⟩)) ?_;simp only[go_sem]
  cases tx<;>cases z1<;>cases ao
  all_goals
   simp only[go_sem,Int.reduceBEq,k3,k5,hr,Ba,Bc]
   first
    | exact(Ho true).elim fun _ ⟨nq,r1,er⟩=>by subst er;exact Ab nq AB (by simp only[go_sem];exact qa _)
    | exact(Ho false).elim fun _ ⟨nq,r1,er⟩=>by subst er;exact Ab nq AB (by simp only[go_sem];exact qa _)
 have o9:(op==9)=false:=by simp[o9]
 by_cases qN:op=10
 .subst qN;by_cases z5:qq=0;rotate_left
  .have y5:(qq==0)=false:=by simp[z5]
   simp only[go_sem,Int.reduceBEq,k3,k5,hr];refine Ab qv AB ?_;simp only[go_sem,Int.reduceBEq,k3,k5,hr,y5,bne,Bc];exact qa _
  have y5:(qq==0)=true:=by simp[z5]
  obtain⟨i,d,di,hd,jo⟩:=Adz (qU rfl rfl z5)
  rw[di]at qw
  have qD:d.row=[iV d.kind,iV d.line,.str d.nm,iV d.size,iV d.init,.str d.on]:=rfl;obtain⟨_,i1,z1,rfl⟩:=Qm h1 AA 4 4 d.on;simp only[go_sem,Int.reduceBEq,k3,k5,hr];refine Ab qv AB ?_;simp only[go_sem,Int.reduceBEq,k3,k5,hr,y5,bne,Ba];refine Ad AD ?_;simp only[go_sem,Int.reduceBEq,k3,k5,hr];refine Ax qw AB ?_;simp only[go_sem,Int.reduceBEq,k3,k5,hr,Ak,hd,qD];refine Z1 i1 (by repeat (first | exact trivial | refine⟨.inl AH,?_⟩ | refine⟨by rfl,?_⟩ | refine⟨.inr ⟨by rfl,by rfl⟩,?_⟩)) (by repeat (first | exact trivial | refine⟨.inl AH,?_⟩ | refine⟨by rfl,?_⟩ | refine⟨.inr ⟨by rfl,by rfl⟩,?_⟩ | refine⟨.inr ⟨by(first | exact J9 rfl rfl | exact Eu rfl ⟨_,_,by assumption,by rfl⟩ | exact Eu rfl ⟨_,_,Bt AL,by rfl⟩ | exact Ew AL rfl AH | exact Ew (Bt AL) rfl AH),by(first | exact J9 rfl rfl | exact Eu rfl ⟨_,_,by assumption,by rfl⟩ | exact Eu rfl ⟨_,_,Bt AL,by rfl⟩ | exact Ew AL rfl AH | exact Ew (Bt AL) rfl AH)⟩,?_⟩)) ?_;simp only[go_sem]
  cases tx<;>cases z1<;>cases ao
  all_goals
   simp only[go_sem,Int.reduceBEq,k3,k5,hr,Ba,Bc]
   first
    | exact(Ho true).elim fun _ ⟨nq,r1,er⟩=>by subst er;exact Ab nq AB (by simp only[go_sem];exact qa _)
    | exact(Ho false).elim fun _ ⟨nq,r1,er⟩=>by subst er;exact Ab nq AB (by simp only[go_sem];exact qa _)
 have qN:(op==10)=false:=by simp[qN]
 by_cases qO:op=11
 .subst qO;by_cases z5:qq=0;rotate_left
  .have y5:(qq==0)=false:=by simp[z5]
   simp only[go_sem,Int.reduceBEq,k3,k5,hr];refine Ab qv AB ?_;simp only[go_sem,Int.reduceBEq,k3,k5,hr,y5,bne,Bc];exact qa _
  have y5:(qq==0)=true:=by simp[z5]
  obtain⟨i,d,di,hd,jo⟩:=Adz (qU rfl rfl z5)
  rw[di]at qw
  have qD:d.row=[iV d.kind,iV d.line,.str d.nm,iV d.size,iV d.init,.str d.on]:=rfl;obtain⟨_,i1,z1,rfl⟩:=Qm h1 AA 4 4 d.on;simp only[go_sem,Int.reduceBEq,k3,k5,hr];refine Ab qv AB ?_;simp only[go_sem,Int.reduceBEq,k3,k5,hr,y5,bne,Ba];refine Ad AD ?_;simp only[go_sem,Int.reduceBEq,k3,k5,hr];refine Ax qw AB ?_;simp only[go_sem,Int.reduceBEq,k3,k5,hr,Ak,hd,qD];refine Z1 i1 (by repeat (first | exact trivial | refine⟨.inl AH,?_⟩ | refine⟨by rfl,?_⟩ | refine⟨.inr ⟨by rfl,by rfl⟩,?_⟩)) (by repeat (first | exact trivial | refine⟨.inl AH,?_⟩ | refine⟨by rfl,?_⟩ | refine⟨.inr ⟨by rfl,by rfl⟩,?_⟩ | refine⟨.inr ⟨by(first | exact J9 rfl rfl | exact Eu rfl ⟨_,_,by assumption,by rfl⟩ | exact Eu rfl ⟨_,_,Bt AL,by rfl⟩ | exact Ew AL rfl AH | exact Ew (Bt AL) rfl AH),by(first | exact J9 rfl rfl | exact Eu rfl ⟨_,_,by assumption,by rfl⟩ | exact Eu rfl ⟨_,_,Bt AL,by rfl⟩ | exact Ew AL rfl AH | exact Ew (Bt AL) rfl AH)⟩,?_⟩)) ?_;simp only[go_sem]
  cases tx<;>cases z1<;>cases ao
  all_goals
   simp only[go_sem,Int.reduceBEq,k3,k5,hr,Ba,Bc]
   first
    | exact(Ho true).elim fun _ ⟨nq,r1,er⟩=>by subst er;exact Ab nq AB (by simp only[go_sem];exact qa _)
    | exact(Ho false).elim fun _ ⟨nq,r1,er⟩=>by subst er;exact Ab nq AB (by simp only[go_sem];exact qa _)
 have qO:(op==11)=false:=by simp[qO]
 by_cases qP:op=12
 .subst qP;by_cases z7:qz=0;rotate_left
  .have y7:(qz==0)=false:=by simp[z7]
   simp only[go_sem,Int.reduceBEq,k3,k5,hr];refine Ab qA AB ?_;simp only[go_sem,Int.reduceBEq,k3,k5,hr,y7,bne,Bc];exact qa _
  have y7:(qz==0)=true:=by simp[z7]
  simp only[go_sem,Int.reduceBEq,k3,k5,hr];refine Ab qA AB ?_;simp only[go_sem,Int.reduceBEq,k3,k5,hr,y7,bne,Ba];refine Ab jw AB ?_;by_cases qT:tx=true\/ao=true\/lp=true\/Bx (fun d:Tp=>d.nm==nm) p.thrs=th\/Bx (fun d:Tp=>d.nm==nm) p.thrs=0
  .by_cases b1:Bx (fun d:Tp=>d.nm==nm) p.thrs=th<;>by_cases b2:Bx (fun d:Tp=>d.nm==nm) p.thrs=0<;>cases tx<;>cases ao<;>cases lp
   all_goals first | (exfalso;simp[b1,b2]at qT;done) | skip
   all_goals
    first | have y1:(Bx (fun d:Tp=>d.nm==nm) p.thrs==th)=true:=by simp[b1];done | have y1:(Bx (fun d:Tp=>d.nm==nm) p.thrs==th)=false:=by simp[b1];done
    first | have y2:(Bx (fun d:Tp=>d.nm==nm) p.thrs==0)=true:=by simp[b2];done | have y2:(Bx (fun d:Tp=>d.nm==nm) p.thrs==0)=false:=by simp[b2];done
    simp only[go_sem,Int.reduceBEq,k3,k5,hr,y1,y2];exact qa _
  simp only[not_or,X3]at qT;obtain⟨rfl,rfl,rfl,b1,b2⟩:=qT;have y1:(Bx (fun d:Tp=>d.nm==nm) p.thrs==th)=false:=by simp[b1]
  have y2:(Bx (fun d:Tp=>d.nm==nm) p.thrs==0)=false:=by simp[b2]
  simp only[go_sem,Int.reduceBEq,k3,k5,hr,y1,y2];obtain⟨z,qF⟩:=Al1 h1.s;have qC:=Ws z 0 S nm AA;refine Ad AD ?_;simp only[go_sem,Int.reduceBEq,k3,k5,hr];refine Akg (.cons qF (.cons (Ig rfl) .nil)) qC rfl ?_;by_cases c3:0<=Bx (·==nm) S
  .have f3:(0<=Bx (·==nm) S)=True:=eq_true c3;simp only[go_sem,Int.reduceBEq,k3,k5,hr,f3,ge_iff_le];exact qa _
  have f3:(0<=Bx (·==nm) S)=False:=eq_false c3;simp only[go_sem,Int.reduceBEq,k3,k5,hr,f3,ge_iff_le];obtain⟨u',s2,ha,qb,r2,h2,f2⟩:=Boi h1 nm (by grind);obtain⟨qh,qg⟩:=Pi qb;refine Ad AD ?_;simp only[go_sem,Int.reduceBEq,k3,k5,hr,ha];refine Bd ?_;simp only[go_sem,Int.reduceBEq,k3,k5,hr,r2,qh,qg];refine Bd ?_;simp only[go_sem];exact⟨_,rfl,⟨rfl,rfl⟩,⟨Dd f1.1 f2.1,h2.cl⟩,_,rfl,_,_,S++[nm],T,by rw[Fm];exact h2,F1 f1 f2,by simp,by omega⟩
 have qP:(op==12)=false:=by simp[qP]
 by_cases qQ:op=13
 .subst qQ;cases tx;rotate_left
  .obtain⟨_,nq,r1,rfl⟩:=Ho true;obtain⟨_,oq,r2,rfl⟩:=Hb qz r1;simp only[go_sem,Int.reduceBEq,k3,k5,hr];refine Ab qA AB ?_;simp only[go_sem,Int.reduceBEq,k3,k5,hr];refine Ab nq AB ?_;simp only[go_sem];refine Ab oq AB ?_;simp only[go_sem];exact qa _
  cases ao;rotate_left
  .obtain⟨_,nq,r1,rfl⟩:=Ho true;obtain⟨_,oq,r2,rfl⟩:=Hb qz r1;simp only[go_sem,Int.reduceBEq,k3,k5,hr];refine Ab qA AB ?_;simp only[go_sem,Int.reduceBEq,k3,k5,hr];refine Ab nq AB ?_;simp only[go_sem];refine Ab oq AB ?_;simp only[go_sem];exact qa _
  obtain⟨_,nq,r1,rfl⟩:=Ho (Bx (fun d:Tp=>d.nm==nm) p.thrs==th);obtain⟨_,oq,r2,rfl⟩:=Hb qz r1;simp only[go_sem,Int.reduceBEq,k3,k5,hr];refine Ab qA AB ?_;simp only[go_sem,Int.reduceBEq,k3,k5,hr];refine Ab jw AB ?_;simp only[go_sem,Int.reduceBEq,k3,k5,hr];refine Ab nq AB ?_;simp only[go_sem];refine Ab oq AB ?_;simp only[go_sem];exact qa _
 have qQ:(op==13)=false:=by simp[qQ]
 by_cases qR:op=14
 .subst qR;cases tx
  .obtain⟨_,nq,r1,rfl⟩:=Ho lp;obtain⟨_,oq,r2,rfl⟩:=Hb jv r1;simp only[go_sem,Int.reduceBEq,k3,k5,hr];refine Ab ji AB ?_;simp only[go_sem,Int.reduceBEq,k3,k5,hr];refine Ab nq AB ?_;simp only[go_sem];refine Ab oq AB ?_;cases y:(r2==0)
   .simp only[go_sem,Int.reduceBEq,k3,k5,hr,y];refine Ad AD ?_;simp only[go_sem,Int.reduceBEq,k3,k5,hr,y];obtain⟨u',s2,ha,qb,qn,h2,f2⟩:=Xk h1 nm (by grind);obtain⟨qh,qg⟩:=Pi qb;obtain⟨_,qm,r3,rfl⟩:=Hb r2 e0;have qk:(s2.set w (Fc p th uA uS u'))[n]?=some (sO 14 line nm arg iz it idx ex.op ex.n ex.nm ex.z ex.t ex.l bz bt body ez et els):=by rw[f2.2.1 n (An.1 k3).1 (qj n hn)];exact k3
    have ql:(s2.set w (Fc p th uA uS u'))[m]?=some (gO p):=by rw[f2.2.1 m (An.1 k5).1 (qj m hm)];exact k5
    refine Ad AD ?_;simp only[go_sem,Int.reduceBEq,k3,k5,hr,ha];refine Bd ?_;simp only[go_sem,Int.reduceBEq,k3,k5,hr,qn,qh,qg];refine Bd ?_;simp only[go_sem,qk,ql];refine Ab q0 AB ?_;simp only[go_sem];refine Ab qm AB ?_;simp only[go_sem];exact⟨_,rfl,⟨rfl,rfl⟩,⟨Dd f1.1 f2.1,h2.cl⟩,_,rfl,_,_,S,T++[nm],by rw[Fm];exact h2,F1 f1 f2,by omega,by simp⟩
   .obtain⟨z,qF⟩:=Al1 h1.t;have qC:=Ws z 0 T nm AA;simp only[go_sem];refine Ad AD ?_;simp only[go_sem,Int.reduceBEq,k3,k5,hr,y];refine Akg (.cons qF (.cons (Ig rfl) .nil)) qC rfl ?_;by_cases c3:0<=Bx (·==nm) T
    .have f3:(0<=Bx (·==nm) T)=True:=eq_true c3;simp only[go_sem,Int.reduceBEq,k3,k5,hr,f3,ge_iff_le];obtain⟨u',s2,ha,qb,qn,h2,f2⟩:=Xk h1 nm (by grind);obtain⟨qh,qg⟩:=Pi qb;obtain⟨_,qm,r3,rfl⟩:=Hb 8 e0;have qk:(s2.set w (Fc p th uA uS u'))[n]?=some (sO 14 line nm arg iz it idx ex.op ex.n ex.nm ex.z ex.t ex.l bz bt body ez et els):=by rw[f2.2.1 n (An.1 k3).1 (qj n hn)];exact k3
     have ql:(s2.set w (Fc p th uA uS u'))[m]?=some (gO p):=by rw[f2.2.1 m (An.1 k5).1 (qj m hm)];exact k5
     refine Ad AD ?_;simp only[go_sem,Int.reduceBEq,k3,k5,hr,ha];refine Bd ?_;simp only[go_sem,Int.reduceBEq,k3,k5,hr,qn,qh,qg];refine Bd ?_;simp only[go_sem,qk,ql];refine Ab q0 AB ?_;simp only[go_sem];refine Ab qm AB ?_;simp only[go_sem];exact⟨_,rfl,⟨rfl,rfl⟩,⟨Dd f1.1 f2.1,h2.cl⟩,_,rfl,_,_,S,T++[nm],by rw[Fm];exact h2,F1 f1 f2,by omega,by simp⟩
    .have f3:(0<=Bx (·==nm) T)=False:=eq_false c3;simp only[go_sem,Int.reduceBEq,k3,k5,hr,f3,ge_iff_le];obtain⟨u',s2,ha,qb,qn,h2,f2⟩:=Xk h1 nm (by grind);obtain⟨qh,qg⟩:=Pi qb;obtain⟨_,qm,r3,rfl⟩:=Hb r2 e0;have qk:(s2.set w (Fc p th uA uS u'))[n]?=some (sO 14 line nm arg iz it idx ex.op ex.n ex.nm ex.z ex.t ex.l bz bt body ez et els):=by rw[f2.2.1 n (An.1 k3).1 (qj n hn)];exact k3
     have ql:(s2.set w (Fc p th uA uS u'))[m]?=some (gO p):=by rw[f2.2.1 m (An.1 k5).1 (qj m hm)];exact k5
     refine Ad AD ?_;simp only[go_sem,Int.reduceBEq,k3,k5,hr,ha];refine Bd ?_;simp only[go_sem,Int.reduceBEq,k3,k5,hr,qn,qh,qg];refine Bd ?_;simp only[go_sem,qk,ql];refine Ab q0 AB ?_;simp only[go_sem];refine Ab qm AB ?_;simp only[go_sem];exact⟨_,rfl,⟨rfl,rfl⟩,⟨Dd f1.1 f2.1,h2.cl⟩,_,rfl,_,_,S,T++[nm],by rw[Fm];exact h2,F1 f1 f2,by omega,by simp⟩
  .obtain⟨_,nq,r1,rfl⟩:=Ho true;obtain⟨_,oq,r2,rfl⟩:=Hb jv r1;simp only[go_sem,Int.reduceBEq,k3,k5,hr];refine Ab ji AB ?_;simp only[go_sem,Int.reduceBEq,k3,k5,hr];refine Ab nq AB ?_;simp only[go_sem];refine Ab oq AB ?_;cases y:(r2==0)
   .simp only[go_sem,Int.reduceBEq,k3,k5,hr,y];refine Ad AD ?_;simp only[go_sem,Int.reduceBEq,k3,k5,hr,y];obtain⟨u',s2,ha,qb,qn,h2,f2⟩:=Xk h1 nm (by grind);obtain⟨qh,qg⟩:=Pi qb;obtain⟨_,qm,r3,rfl⟩:=Hb r2 e0;have qk:(s2.set w (Fc p th uA uS u'))[n]?=some (sO 14 line nm arg iz it idx ex.op ex.n ex.nm ex.z ex.t ex.l bz bt body ez et els):=by rw[f2.2.1 n (An.1 k3).1 (qj n hn)];exact k3
    have ql:(s2.set w (Fc p th uA uS u'))[m]?=some (gO p):=by rw[f2.2.1 m (An.1 k5).1 (qj m hm)];exact k5
    refine Ad AD ?_;simp only[go_sem,Int.reduceBEq,k3,k5,hr,ha];refine Bd ?_;simp only[go_sem,Int.reduceBEq,k3,k5,hr,qn,qh,qg];refine Bd ?_;simp only[go_sem,qk,ql];refine Ab q0 AB ?_;simp only[go_sem];refine Ab qm AB ?_;simp only[go_sem];exact⟨_,rfl,⟨rfl,rfl⟩,⟨Dd f1.1 f2.1,h2.cl⟩,_,rfl,_,_,S,T++[nm],by rw[Fm];exact h2,F1 f1 f2,by omega,by simp⟩
   .obtain⟨z,qF⟩:=Al1 h1.t;have qC:=Ws z 0 T nm AA;simp only[go_sem];refine Ad AD ?_;simp only[go_sem,Int.reduceBEq,k3,k5,hr,y];refine Akg (.cons qF (.cons (Ig rfl) .nil)) qC rfl ?_;by_cases c3:0<=Bx (·==nm) T
    .have f3:(0<=Bx (·==nm) T)=True:=eq_true c3;simp only[go_sem,Int.reduceBEq,k3,k5,hr,f3,ge_iff_le];obtain⟨u',s2,ha,qb,qn,h2,f2⟩:=Xk h1 nm (by grind);obtain⟨qh,qg⟩:=Pi qb;obtain⟨_,qm,r3,rfl⟩:=Hb 8 e0;have qk:(s2.set w (Fc p th uA uS u'))[n]?=some (sO 14 line nm arg iz it idx ex.op ex.n ex.nm ex.z ex.t ex.l bz bt body ez et els):=by rw[f2.2.1 n (An.1 k3).1 (qj n hn)];exact k3
     have ql:(s2.set w (Fc p th uA uS u'))[m]?=some (gO p):=by rw[f2.2.1 m (An.1 k5).1 (qj m hm)];exact k5
     refine Ad AD ?_;simp only[go_sem,Int.reduceBEq,k3,k5,hr,ha];refine Bd ?_;simp only[go_sem,Int.reduceBEq,k3,k5,hr,qn,qh,qg];refine Bd ?_;simp only[go_sem,qk,ql];refine Ab q0 AB ?_;simp only[go_sem];refine Ab qm AB ?_;simp only[go_sem];exact⟨_,rfl,⟨rfl,rfl⟩,⟨Dd f1.1 f2.1,h2.cl⟩,_,rfl,_,_,S,T++[nm],by rw[Fm];exact h2,F1 f1 f2,by omega,by simp⟩
    .have f3:(0<=Bx (·==nm) T)=False:=eq_false c3;simp only[go_sem,Int.reduceBEq,k3,k5,hr,f3,ge_iff_le];obtain⟨u',s2,ha,qb,qn,h2,f2⟩:=Xk h1 nm (by grind);obtain⟨qh,qg⟩:=Pi qb;obtain⟨_,qm,r3,rfl⟩:=Hb r2 e0;have qk:(s2.set w (Fc p th uA uS u'))[n]?=some (sO 14 line nm arg iz it idx ex.op ex.n ex.nm ex.z ex.t ex.l bz bt body ez et els):=by rw[f2.2.1 n (An.1 k3).1 (qj n hn)];exact k3
     have ql:(s2.set w (Fc p th uA uS u'))[m]?=some (gO p):=by rw[f2.2.1 m (An.1 k5).1 (qj m hm)];exact k5
     refine Ad AD ?_;simp only[go_sem,Int.reduceBEq,k3,k5,hr,ha];refine Bd ?_;simp only[go_sem,Int.reduceBEq,k3,k5,hr,qn,qh,qg];refine Bd ?_;simp only[go_sem,qk,ql];refine Ab q0 AB ?_;simp only[go_sem];refine Ab qm AB ?_;simp only[go_sem];exact⟨_,rfl,⟨rfl,rfl⟩,⟨Dd f1.1 f2.1,h2.cl⟩,_,rfl,_,_,S,T++[nm],by rw[Fm];exact h2,F1 f1 f2,by omega,by simp⟩
 have qR:(op==14)=false:=by simp[qR]
 obtain⟨_,nq,r1,rfl⟩:=Ho tx;obtain⟨_,oq,r2,rfl⟩:=Hb jV r1;obtain⟨_,jc,r3,rfl⟩:=Hb jU r2;simp only[go_sem,Int.reduceBEq,k3,k5,hr,o1,o2,o3,o4,o5,o6,o7,o8,o9,qN,qO,qP,qQ,qR];refine Ad AD ?_;simp only[go_sem,Int.reduceBEq,k3,k5,hr];refine Ax jz AB ?_;simp only[go_sem,Int.reduceBEq,k3,k5,hr];refine Ax jk AB ?_;simp only[go_sem,Int.reduceBEq,k3,k5,hr];refine Ax nq AB ?_;simp only[go_sem,Int.reduceBEq,k3,k5,hr];refine Ax oq AB ?_;simp only[go_sem,Int.reduceBEq,k3,k5,hr];refine Ax jc AB ?_;simp only[go_sem];exact qa _
def Aw4{σ τ:St}{n i g off:Nat}{v:V}(h:Qr σ n (.ptr i g off) v=some τ):Aay σ[i]? σ n i g off v=some (.und,τ):=by
 rw[<-Axw,Af1,h];rfl
def Boj{σ:St}{w:Nat}{p:Gp}{th:Int}{uA uS uT:V}{X:List Sp}{S T:List (List V)}(h:WK σ w p th uA uS uT (X.map Sp.row) S T)(x:Sp)(hb:X.length<=1000):
  ∃ u' s3 j g Y,Dx 176 (11,100) uA (.lst 1 [(sZ 0 0 [] [])]) σ=some (u',s3)/\u'.cellB=true/\u'=.sl j g 0 (X.length+1) 11 true/\s3[w]?=some (Fc p th uA uS uT) /\
   Qr s3 11 (.ptr j g (0+X.length*11)) (.agg x.row)=some (s3.set j Y)/\(s3.set j Y)[w]?=some (Fc p th uA uS uT) /\
   (∀ W',Qr (s3.set w W') 11 (.ptr j g (0+X.length*11)) (.agg x.row)=some ((s3.set w W').set j Y)/\(s3.set w W').set j Y=(s3.set j Y).set w W') /\
   WK ((s3.set j Y).set w (Fc p th u' uS uT)) w p th u' uS uT ((X++[x]).map Sp.row) S T/\FW w σ ((s3.set j Y).set w (Fc p th u' uS uT))/\(∀ i,i<σ.length->i ∉ fp σ w->s3[i]?=σ[i]?/\(s3.set j Y)[i]?=σ[i]?):=by
 have hw:=Sv h;have n1:(X.map Sp.row).length=X.length:=Av ..;obtain⟨u',s3,e1,g1,hl,hk,hr,hc⟩:=Wg (bytes:=176) (row:=(sZ 0 0 [] [])) h.a AA rfl rfl AA;obtain⟨j,g,cs',hu,hj,qu,ke⟩:=Bfg (row:=x.row) g1 (N5 x) (He x);rw[n1]at hu qu;have jp:j∈u'.refs:=by rw[hu];simp[V.refs]
 have jE:=hr j jp
 have jq:j≠w:=fun e=>by
  rcases jE with h2 | h2
  .exact(h.ad j h2).1 e
  .omega
 have nn:∀ i,i<σ.length->i ∉ uA.refs->i ∉ u'.refs:=fun i hi h1 h2=>by
  grind
 have nj:∀ i,i<σ.length->i ∉ uA.refs->i≠j:=fun i hi h1 e=>nn i hi h1 (e ▸ jp)
 have jB:∀ i,i<σ.length->i ∉ uA.refs->s3[i]?=σ[i]?:=hk
 have qJ:∀ i,i<σ.length->i ∉ uA.refs->(s3.set j (.row cs' 100 g 0))[i]?=σ[i]?:=fun i hi h1=>by
  grind
 have kf:=Sw h;have kk:∀ i,i ∉ fp σ w->i ∉ uA.refs:=fun i hi h1=>hi (by grind)
 have wA:w ∉ uA.refs:=fun e=>(h.ad w e).1 rfl
 have jd:s3[w]?=_:=(jB w hw wA).trans h.row;have je:=(qJ w hw wA).trans h.row;have c4:Cl (s3.set j (.row cs' 100 g 0)):=F4 (hc h.cl) (by grind[Ob.refs]);have qH:=qu s3 rfl;refine⟨u',s3,j,g,.row cs' 100 g 0,e1,J0 g1,hu,jd,qH.1,je,fun W'=>⟨(qu (s3.set w W') (B4 (Ne.symm jq))).1,List.set_comm _ _ (Ne.symm jq)⟩,?_⟩
 have jI:=Z8 (σ2:=s3.set j (.row cs' 100 g 0)) (th':=th) (A':=(X++[x]).map Sp.row) (vA:=u') h (by grind) (fun i hi h1 _ _=>qJ i hi h1) (by grind) (Ih h.s fun i hi=>qJ i (C0 h.s i hi) fun e=>(h.ad i e).2.1 hi) (Ih h.t fun i hi=>qJ i (C0 h.t i hi) fun e=>(h.ad i e).2.2 hi) hr (fun i hi=>.inl hi) (fun i hi=>.inl hi)
  (fun i hi=>?_) (fun i hi=>(h.sd i hi).2) c4
 .grind
 .refine⟨fun e=>?_,fun e=>?_⟩
  .exact nn i (C0 h.s i e) (fun e2=>(h.ad i e2).2.1 e) hi
  .exact nn i (C0 h.t i e) (fun e2=>(h.ad i e2).2.2 e) hi
def Azp{σ:St}{w:Nat}{p:Gp}{th:Int}{uA uS uT:V}{X:List Sp}{x:Sp}{S T:List (List V)}(h:WK σ w p th uA uS uT ((X++[x]).map Sp.row) S T):
  ∃ u',Io 11 uA none (some (iV (X.length:Int))) none=some u'/\u'.cellB=true/\WK (σ.set w (Fc p th u' uS uT)) w p th u' uS uT (X.map Sp.row) S T/\FW w σ (σ.set w (Fc p th u' uS uT)):=by
 have h1:=h.a;rw[Fm,Bh,B0]at h1;obtain⟨u',e1,g1,hr⟩:=Av4 h1;rw[Av]at e1;exact⟨u',e1,J0 g1,Z8 h (Am _) (fun _ _ _ _ _=>rfl) g1 h.s h.t (fun j hj=>.inl (by grind)) (fun j hj=>.inl hj) (fun j hj=>.inl hj) (fun j hj=>(h.ad j (by grind)).2) (fun j hj=>(h.sd j hj).2) h.cl⟩
def Bok(w:Nat)(p:Gp)(th:Int)(X:List Sp)(n:Nat)(S T:List (List UInt8))(σ:St)(v:V)(σ':St):Prop:=∃ e ln:Int,v=.tup [iV e,iV ln]/\∃ (vA vS vT:V) (S' T':List (List UInt8)),WK σ' w p th vA vS vT (X.map Sp.row) (S'.map fun x=>[V.str x]) (T'.map fun x=>[V.str x])/\FW w σ σ'/\S'.length<=S.length+n/\T'.length<=T.length+n
theorem Asn{σ τ:St}{m j:Nat}(hw:FW m σ τ)(hl:j<σ.length)(hn:j ∉ fp σ m):τ[j]?=σ[j]?/\j ∉ fp τ m:=by
 refine⟨hw.2.1 j hl hn,fun hm=>?_⟩;rcases hw.2.2 j hm with h2 | h2
 .grind
 .omega
def A7p{σ τ:St}{m j:Nat}{x:Ob}(hw:FW m σ τ)(hj:σ[j]?=some x)(hn:j ∉ fp σ m):τ[j]?=some x/\j ∉ fp τ m:=by
 grind[Asn]
def Agg(p:Gp)(l:List Sp):Prop:=∀ (σ:St) (w:Nat) (th:Int) (uA uS uT:V) (X:List Sp) (S T:List (List UInt8)) (z:Bool) (t:Nat),WK σ w p th uA uS uT (X.map Sp.row) (S.map fun x=>[V.str x]) (T.map fun x=>[V.str x])->X.length<=6->S.length+Sp.szs l<=1000000->T.length+Sp.szs l<=1000000 ->
  ∃ v σ',Th TT PT 75 [.ptr w 0 0,SL z t (l.map Sp.row)] σ v σ'/\Bok w p th X (Sp.szs l) S T σ v σ'
set_option maxHeartbeats 8000000 in
def Aso{p:Gp}(hp:LnG p){l:List Sp}(hl:Cx (l.map Sp.row)<=1000000000)(IH:∀ x∈l,Agg p x.body/\Agg p x.els):Agg p l:=by
 intro σ w th uA uS uT X S T z t h hX hS hT;have kc:=Lf (f:=Sp.row) (fun x=>by grind[Ng]) l;have n1:(l.map Sp.row).length=l.length:=Av ..;have hw:=Sv h;refine Ajv T75 rfl ?_;simp only[go_sem]
 refine Bb (α:=Nat × St × V × V × V × List (List UInt8) × List (List UInt8)) (fun a=>l.length - a.1) (fun a=>[(0,.ptr w 0 0),(1,SL z t (l.map Sp.row)),(6,iV (a.1:Int))]) (fun a=>a.2.1)
  (fun a=>a.1<=l.length/\WK a.2.1 w p th a.2.2.1 a.2.2.2.1 a.2.2.2.2.1 (X.map Sp.row) (a.2.2.2.2.2.1.map fun x=>[V.str x]) (a.2.2.2.2.2.2.map fun x=>[V.str x])/\FW w σ a.2.1/\a.2.2.2.2.2.1.length+Sp.szs (l.drop a.1)<=S.length+Sp.szs l/\a.2.2.2.2.2.2.length+Sp.szs (l.drop a.1)<=T.length+Sp.szs l) ?_ (0,σ,uA,uS,uT,S,T) ⟨As _,h,Ajj _ _,by simp,by simp⟩
 clear h uA uS uT;rintro⟨i,s,vA,vS,vT,S1,T1⟩ ⟨hi,h1,f1,qV,qW⟩ ih;simp only at hi h1 f1 qV qW ih;refine Ay Blm ?_;rcases Az i l.length with h' | h'
 .obtain⟨x,hx,hd,hm⟩:=Bk h';rw[hd,Sp.szs]at qV qW;have jK:=Lh x;have qY:=Jy (f:=Sp.row) hm;have qy:=He x;obtain⟨jN,jO⟩:=IH x hm;have h2:WK (s++[.row x.row 100 0 0]) w p th vA vS vT (X.map Sp.row) (S1.map fun x=>[V.str x]) (T1.map fun x=>[V.str x]):=Auq h1 _ (Jf h1.cl qy);have f2:FW w s (s++[.row x.row 100 0 0]):=Ajk _ (Sv h1);obtain⟨_,s2,q1,e,rfl,wS,wT,S2,T2,h3,f3,bS,bT⟩:=Bg8 h2 hp AA AA AA x AA
  have qj:∀ {s':St} {w1 w2 w3:V} {A B C:List (List V)},WK s' w p th w1 w2 w3 A B C->FW w s s'->s.length ∉ fp s w:=fun _ _ hm=>by
   rw[Sw h1]at hm;simp only[B7,Cs]at hm;rcases hm with hm | hm | hm | hm
   .have:=Sv h1;omega
   .have:=C0 h1.a _ hm;omega
   .have:=C0 h1.s _ hm;omega
   .have:=C0 h1.t _ hm;omega
  have jP:s.length ∉ fp (s++[.row x.row 100 0 0]) w:=fun hm=>by
   rw[Sw h2,<-Sw h1]at hm
   grind
  have k2:s2[s.length]?=some (.row x.row 100 0 0):=by
   rw[f3.2.1 _ AE jP];simp
  have qM:s.length ∉ fp s2 w:=fun hm=>by
   rcases f3.2.2 _ hm with h4 | h4
   .grind
   grind
  have l3:=Z4 h3.a;rw[Av]at l3;have r3:=h3.row;have qe:=Fr x;have qB:=F1 f1 (F1 f2 f3);rw[qe]at q1 qy;have kg:=k2;rw[qe]at k2;simp only[go_sem,n1,Aq h',Ak,hx,qe];refine Bv q1 ?_;have e7:IntKind.i64.wrap ((X.length:Int)+1)=((X.length+1:Nat):Int):=by rw[Bo AA];rfl
  by_cases c6:X.length=6
  .have f6:((6:Int)<((X.length+1:Nat):Int))=True:=eq_true AA;simp only[go_sem,r3,l3,e7,gt_iff_lt,f6,bne,Int.reduceBEq,Bc];refine Ad AD ?_;simp only[go_sem,k2];exact⟨_,rfl,⟨rfl,rfl⟩,⟨qB.1,h3.cl⟩,_,_,rfl,_,_,_,S2,T2,h3,qB,by omega,by omega⟩
  have f6:((6:Int)<((X.length+1:Nat):Int))=False:=eq_false AA;by_cases e0:e=0;rotate_left
  .have y0:(e==0)=false:=by simp[e0]
   simp only[go_sem,r3,l3,e7,gt_iff_lt,f6,bne,y0,Bc];refine Ad AD ?_;simp only[go_sem,k2];exact⟨_,rfl,⟨rfl,rfl⟩,⟨qB.1,h3.cl⟩,_,_,rfl,_,_,_,S2,T2,h3,qB,by omega,by omega⟩
  subst e0;obtain⟨u',s3,j,g,Y,ha,qb,hu,jS,qH,r4,qs,h4,f4,js⟩:=Boj h3 x AA;obtain⟨qh,qg⟩:=Pi qb;have k3:s3[s.length]?=_:=(js s.length (An.1 k2).1 qM).1.trans k2;rw[qe]at qH;simp only[Gw]at qH qs;have jf:=Aw4 qH;have qr:∀ W',Aay (s3.set w W')[j]? (s3.set w W') 11 j g (X.length*11) (.agg x.row)=some (.und,(s3.set w W').set j Y):=fun W'=>Aw4 (qs W').1
  rw[qe]at qr;subst hu
  have qE:Lx 11 (.sl j g 0 (X.length+1) 11 true) (iV (X.length:Int))=some (.ptr j g (X.length*11)):=by
   have:=Ayg (m:=11) (j:=j) (g:=g) (off:=0) (w:=true) (k:=.i64) (show X.length<X.length+1 by omega);rw[Gw]at this;exact this
  simp only[go_sem,r3,l3,e7,gt_iff_lt,f6,bne,Int.reduceBEq,Ba];refine Bfj 9 12 [0,1,2,3,4,5,6,7,8,9,10,11,12] [0,1,2,3,4,5,6,7,10,11,12,8,9] [[],[0],[1],[2],[],[3],[],[0,1,2,3,4,5,6],[0,1,2,3,4,5,6,7],[0,1,2,3,4,5,6,7,8],[0,1,2,3,4,5,6,7],[0,1,2,3,4,5,6,7,10],[0,1,2,3,4,5,6,7,11,9]] [[],[0],[1],[2],[],[3],[],[0,1,2,3,4,5,6],[0,1,2,3,4,5,6,7],[0,1,2,3,4,5,6,7,8],[0,1,2,3,4,5,6,7,9],[0,1,2,3,4,5,6,7],[0,1,2,3,4,5,6,7,11,10]] (E:=?E) (S:=?S) AD ?h1 ?h2 ?h3
  case h1=>
   simp only[D8,Nv,Rg,O7,Te,Be,Dn,Nat.reduceAdd];simp only[go_sem,r3,l3,k2,ha];refine Bd ?_;simp only[go_sem,ha];refine Bd ?_;simp only[go_sem,qE,jf];refine Bd ?_;simp only[go_sem,r4];refine Bd ?_;simp only[go_sem];exact Bjr
  case h2=>
   simp only[D8,Nv,Rg,O7,Te,Be,Dn,Nat.reduceAdd];simp only[go_sem,r3,l3,k2,ha];refine Bd ?_;simp only[go_sem,ha];refine Bd ?_;simp only[go_sem,jS];refine Bd ?_;simp only[go_sem,qE,qr];refine Bd ?_;simp only[go_sem];exact Bjs rfl (qs _).2
  case h3=>
   have jJ:s.length≠w:=fun e=>qM (by grind)
   have k4:((s3.set j Y).set w (.row [SL p.dz p.dt (p.decls.map Dp.row),SL p.tz p.tt (p.thrs.map Tp.row),iV th,.sl j g 0 (X.length+1) 11 true,wS,wT] 139 0 0))[s.length]?=some (sO x.op x.line x.nm x.arg x.iz x.it x.idx x.ex.op x.ex.n x.ex.nm x.ex.z x.ex.t x.ex.l x.bz x.bt x.body x.ez x.et x.els):=by rw[B4 (Ne.symm jJ)];exact(js s.length (An.1 k2).1 qM).2.trans k2
   have jQ:=(Asn f4 (An.1 k2).1 qM).2;obtain⟨_,s5,q5,e5,kh,rfl,xA,xS,xT,S5,T5,h5,f5,jW,jX⟩:=jN _ w th _ _ _ (X++[x]) S2 T2 x.bz x.bt h4 (by grind) AA AA;have jm:=F1 qB (F1 f4 f5);obtain⟨k5,kj⟩:=A7p f5 k4 jQ;simp only[go_sem,k4];refine Bv q5 ?_;cases y5:(e5==0)
   .obtain⟨u6,qL,qZ,h7,f7⟩:=Azp h5;obtain⟨qp,qo⟩:=Pi qZ;have r6:=h5.row;have l6:=Z4 h5.a;rw[Av,Aj,I8]at l6;have e8:IntKind.i64.wrap (((X.length+1:Nat):Int) - 1)=(X.length:Int):=by rw[Bo AA];omega
    have g7:=F1 jm f7;simp only[go_sem,y5];refine Ad AD ?_;simp only[go_sem,r6,l6,e8,qL,qp,qo];refine Bd ?_;simp only[go_sem,bne,y5,Bc,Ba,Aw (show i<9223372036854775807 by omega)];exact⟨_,rfl,⟨rfl,rfl⟩,⟨g7.1,h7.cl⟩,_,_,rfl,_,_,_,S5,T5,h7,g7,by omega,by omega⟩
   .obtain⟨_,s9,q9,e9,ki,rfl,zA,zS,zT,S9,T9,h9,f9,jY,jZ⟩:=jO _ w th _ _ _ (X++[x]) S5 T5 x.ez x.et h5 (by grind) AA AA;have jA:=F1 jm f9;obtain⟨u6,qL,qZ,h7,f7⟩:=Azp h9;obtain⟨qp,qo⟩:=Pi qZ;have r6:=h9.row;have l6:=Z4 h9.a;rw[Av,Aj,I8]at l6;have e8:IntKind.i64.wrap (((X.length+1:Nat):Int) - 1)=(X.length:Int):=by rw[Bo AA];omega
    have g7:=F1 jA f7;simp only[go_sem,y5,k5];refine Bv q9 ?_;simp only[go_sem];cases y9:(e9==0)
    .refine Ad AD ?_;simp only[go_sem,r6,l6,e8,qL,qp,qo];refine Bd ?_;simp only[go_sem,bne,y9,Bc,Ba,Aw (show i<9223372036854775807 by omega)];exact⟨_,rfl,⟨rfl,rfl⟩,⟨g7.1,h7.cl⟩,_,_,rfl,_,_,_,S9,T9,h7,g7,by omega,by omega⟩
    .refine Ad AD ?_;simp only[go_sem,r6,l6,e8,qL,qp,qo];refine Bd ?_;simp only[go_sem,bne,y9,Bc,Ba,Aw (show i<9223372036854775807 by omega)];exact Ai (ih (i+1,_,u6,zS,zT,S9,T9) AA ⟨h',h7,g7,by grind,by grind⟩) rfl
 .simp only[go_sem,n1,Bj h'];rw[D4 h',Sp.szs]at qV qW;exact⟨_,rfl,⟨rfl,rfl⟩,⟨f1.1,h1.cl⟩,_,_,rfl,_,_,_,S1,T1,h1,f1,by omega,by omega⟩
def Xu(v:V):Prop:=∃ e ln:Int,v=.tup [iV e,iV ln]
set_option maxHeartbeats 4000000 in
def A36(z:Bool)(t:Nat)(l:List Dp)(hl:l.length<=1000000000):∃ v,Fn TT PT 72 [SL z t (l.map Dp.row)] v/\Xu v:=by
 have n1:(l.map Dp.row).length=l.length:=Av ..;refine Om T72 rfl ?_;simp only[go_sem];refine Bb (α:=Nat × St × Int × Int × Int × Int) (fun a=>l.length - a.1) (fun a=>[(0,SL z t (l.map Dp.row)),(4,iV a.2.2.1),(5,iV a.2.2.2.1),(6,iV a.2.2.2.2.1),(7,iV a.2.2.2.2.2),(8,iV (a.1:Int))]) (fun a=>a.2.1) (fun a=>a.1<=l.length) ?_ (0,[],0,0,0,0) (As _);rintro⟨i,s,c4,c5,c6,c7⟩ hi ih;simp only at hi ih;refine Ay Blg ?_;have qa:∀ (s:St) (e ln:Int),∃ v,some (V.tup [iV e,iV ln])=some v/\(Cd v=true/\v.refs=[]/\Eg [] v=some v)/\Xu v:=fun _ e ln=>⟨_,rfl,⟨rfl,rfl,rfl⟩,e,ln,rfl⟩
 rcases Az i l.length with h' | h';rotate_left
 .simp only[go_sem,n1,Bj h'];exact qa [] _ _
 obtain⟨x,hx,-,-⟩:=Bk h';have qe:x.row=[iV x.kind,iV x.line,.str x.nm,iV x.size,iV x.init,.str x.on]:=rfl;obtain⟨z2,t2,qf⟩:=Ye z t 6 (l.map Dp.row) .i64 i AA;rw[<-Vo]at qf;have hd:=Wt z2 t2 (l.take i) x.nm (by grind);have ho:=Wt z2 t2 (l.take i) x.on (by grind);simp only[go_sem,n1,Aq h',Ak,hx,qe];refine Ad AD ?_;simp only[go_sem,qf];refine Ax hd AB ?_;by_cases g1:0<=Bx (fun d:Dp=>d.nm==x.nm) (l.take i)
 .have f1:(0<=Bx (fun d:Dp=>d.nm==x.nm) (l.take i))=True:=eq_true g1;simp only[go_sem,f1,ge_iff_le];refine Ad AD ?_;simp only[go_sem];exact qa [] _ _
 have f1:(0<=Bx (fun d:Dp=>d.nm==x.nm) (l.take i))=False:=eq_false g1;by_cases g2:4<x.size
 .have f2:((4:Int)<x.size)=True:=eq_true g2;simp only[go_sem,f1,ge_iff_le,gt_iff_lt,f2];refine Ad AD ?_;simp only[go_sem];exact qa [] _ _
 have f2:((4:Int)<x.size)=False:=eq_false g2;by_cases h1:x.kind=1
 .have q1:(x.kind==1)=true:=by simp[h1]
  have q2:(x.kind==2)=false:=by simp[h1]
  have q3:(x.kind==3)=false:=by simp[h1]
  have q4:(x.kind==4)=false:=by simp[h1]
  have q5:(x.kind==5)=false:=by simp[h1]
  by_cases u4:12<(IntKind.i64.wrap (c4+max x.size 1))
  .have t4:((12:Int)<(IntKind.i64.wrap (c4+max x.size 1)))=True:=eq_true u4;simp only[go_sem,f1,ge_iff_le,gt_iff_lt,f2,q1,q2,q3,q4,q5,t4];refine Ad AD ?_;simp only[go_sem];exact qa [] _ _
  have t4:((12:Int)<(IntKind.i64.wrap (c4+max x.size 1)))=False:=eq_false u4;by_cases u5:4<c5
  .have t5:((4:Int)<c5)=True:=eq_true u5;simp only[go_sem,f1,ge_iff_le,gt_iff_lt,f2,q1,q2,q3,q4,q5,t4,t5];refine Ad AD ?_;simp only[go_sem];exact qa [] _ _
  have t5:((4:Int)<c5)=False:=eq_false u5;by_cases u6:2<c6
  .have t6:((2:Int)<c6)=True:=eq_true u6;simp only[go_sem,f1,ge_iff_le,gt_iff_lt,f2,q1,q2,q3,q4,q5,t4,t5,t6];refine Ad AD ?_;simp only[go_sem];exact qa [] _ _
  have t6:((2:Int)<c6)=False:=eq_false u6;by_cases u7:2<c7
  .have t7:((2:Int)<c7)=True:=eq_true u7;simp only[go_sem,f1,ge_iff_le,gt_iff_lt,f2,q1,q2,q3,q4,q5,t4,t5,t6,t7];refine Ad AD ?_;simp only[go_sem];exact qa [] _ _
  have t7:((2:Int)<c7)=False:=eq_false u7;simp only[go_sem,f1,ge_iff_le,gt_iff_lt,f2,q1,q2,q3,q4,q5,t4,t5,t6,t7,Aw (show i<9223372036854775807 by omega)];exact Ai (ih (i+1,_,(IntKind.i64.wrap (c4+max x.size 1)),c5,c6,c7) AA h') rfl
 by_cases h2:x.kind=2
 .have q1:(x.kind==1)=false:=by simp[h2]
  have q2:(x.kind==2)=true:=by simp[h2]
  have q3:(x.kind==3)=false:=by simp[h2]
  have q4:(x.kind==4)=false:=by simp[h2]
  have q5:(x.kind==5)=false:=by simp[h2]
  by_cases u4:12<(IntKind.i64.wrap (c4+max x.size 1))
  .have t4:((12:Int)<(IntKind.i64.wrap (c4+max x.size 1)))=True:=eq_true u4;simp only[go_sem,f1,ge_iff_le,gt_iff_lt,f2,q1,q2,q3,q4,q5,t4];refine Ad AD ?_;simp only[go_sem];exact qa [] _ _
  have t4:((12:Int)<(IntKind.i64.wrap (c4+max x.size 1)))=False:=eq_false u4;by_cases u5:4<c5
  .have t5:((4:Int)<c5)=True:=eq_true u5;simp only[go_sem,f1,ge_iff_le,gt_iff_lt,f2,q1,q2,q3,q4,q5,t4,t5];refine Ad AD ?_;simp only[go_sem];exact qa [] _ _
  have t5:((4:Int)<c5)=False:=eq_false u5;by_cases u6:2<c6
  .have t6:((2:Int)<c6)=True:=eq_true u6;simp only[go_sem,f1,ge_iff_le,gt_iff_lt,f2,q1,q2,q3,q4,q5,t4,t5,t6];refine Ad AD ?_;simp only[go_sem];exact qa [] _ _
  have t6:((2:Int)<c6)=False:=eq_false u6;by_cases u7:2<c7
  .have t7:((2:Int)<c7)=True:=eq_true u7;simp only[go_sem,f1,ge_iff_le,gt_iff_lt,f2,q1,q2,q3,q4,q5,t4,t5,t6,t7];refine Ad AD ?_;simp only[go_sem];exact qa [] _ _
  have t7:((2:Int)<c7)=False:=eq_false u7;simp only[go_sem,f1,ge_iff_le,gt_iff_lt,f2,q1,q2,q3,q4,q5,t4,t5,t6,t7,Aw (show i<9223372036854775807 by omega)];exact Ai (ih (i+1,_,(IntKind.i64.wrap (c4+max x.size 1)),c5,c6,c7) AA h') rfl
 by_cases h3:x.kind=3
 .have q1:(x.kind==1)=false:=by simp[h3]
  have q2:(x.kind==2)=false:=by simp[h3]
  have q3:(x.kind==3)=true:=by simp[h3]
  have q4:(x.kind==4)=false:=by simp[h3]
  have q5:(x.kind==5)=false:=by simp[h3]
  by_cases u4:12<c4
  .have t4:((12:Int)<c4)=True:=eq_true u4;simp only[go_sem,f1,ge_iff_le,gt_iff_lt,f2,q1,q2,q3,q4,q5,t4];refine Ad AD ?_;simp only[go_sem];exact qa [] _ _
  have t4:((12:Int)<c4)=False:=eq_false u4;by_cases u5:4<(IntKind.i64.wrap (c5+1))
  .have t5:((4:Int)<(IntKind.i64.wrap (c5+1)))=True:=eq_true u5;simp only[go_sem,f1,ge_iff_le,gt_iff_lt,f2,q1,q2,q3,q4,q5,t4,t5];refine Ad AD ?_;simp only[go_sem];exact qa [] _ _
  have t5:((4:Int)<(IntKind.i64.wrap (c5+1)))=False:=eq_false u5;by_cases u6:2<c6
  .have t6:((2:Int)<c6)=True:=eq_true u6;simp only[go_sem,f1,ge_iff_le,gt_iff_lt,f2,q1,q2,q3,q4,q5,t4,t5,t6];refine Ad AD ?_;simp only[go_sem];exact qa [] _ _
  have t6:((2:Int)<c6)=False:=eq_false u6;by_cases u7:2<c7
  .have t7:((2:Int)<c7)=True:=eq_true u7;simp only[go_sem,f1,ge_iff_le,gt_iff_lt,f2,q1,q2,q3,q4,q5,t4,t5,t6,t7];refine Ad AD ?_;simp only[go_sem];exact qa [] _ _
  have t7:((2:Int)<c7)=False:=eq_false u7;simp only[go_sem,f1,ge_iff_le,gt_iff_lt,f2,q1,q2,q3,q4,q5,t4,t5,t6,t7,Aw (show i<9223372036854775807 by omega)];exact Ai (ih (i+1,_,c4,(IntKind.i64.wrap (c5+1)),c6,c7) AA h') rfl
 by_cases h4:x.kind=4
 .have q1:(x.kind==1)=false:=by simp[h4]
  have q2:(x.kind==2)=false:=by simp[h4]
  have q3:(x.kind==3)=false:=by simp[h4]
  have q4:(x.kind==4)=true:=by simp[h4]
  have q5:(x.kind==5)=false:=by simp[h4]
  by_cases u4:12<c4
  .have t4:((12:Int)<c4)=True:=eq_true u4;simp only[go_sem,f1,ge_iff_le,gt_iff_lt,f2,q1,q2,q3,q4,q5,t4];refine Ad AD ?_;simp only[go_sem];exact qa [] _ _
  have t4:((12:Int)<c4)=False:=eq_false u4;by_cases u5:4<(IntKind.i64.wrap (c5+1))
  .have t5:((4:Int)<(IntKind.i64.wrap (c5+1)))=True:=eq_true u5;simp only[go_sem,f1,ge_iff_le,gt_iff_lt,f2,q1,q2,q3,q4,q5,t4,t5];refine Ad AD ?_;simp only[go_sem];exact qa [] _ _
  have t5:((4:Int)<(IntKind.i64.wrap (c5+1)))=False:=eq_false u5;by_cases u6:2<c6
  .have t6:((2:Int)<c6)=True:=eq_true u6;simp only[go_sem,f1,ge_iff_le,gt_iff_lt,f2,q1,q2,q3,q4,q5,t4,t5,t6];refine Ad AD ?_;simp only[go_sem];exact qa [] _ _
  have t6:((2:Int)<c6)=False:=eq_false u6;by_cases u7:2<c7
  .have t7:((2:Int)<c7)=True:=eq_true u7;simp only[go_sem,f1,ge_iff_le,gt_iff_lt,f2,q1,q2,q3,q4,q5,t4,t5,t6,t7];refine Ad AD ?_;simp only[go_sem];exact qa [] _ _
  have t7:((2:Int)<c7)=False:=eq_false u7;simp only[go_sem,f1,ge_iff_le,gt_iff_lt,f2,q1,q2,q3,q4,q5,t4,t5,t6,t7,Aw (show i<9223372036854775807 by omega)];exact Ai (ih (i+1,_,c4,(IntKind.i64.wrap (c5+1)),c6,c7) AA h') rfl
 by_cases h5:x.kind=5
 .have q1:(x.kind==1)=false:=by simp[h5]
  have q2:(x.kind==2)=false:=by simp[h5]
  have q3:(x.kind==3)=false:=by simp[h5]
  have q4:(x.kind==4)=false:=by simp[h5]
  have q5:(x.kind==5)=true:=by simp[h5]
  by_cases u4:12<c4
  .have t4:((12:Int)<c4)=True:=eq_true u4;simp only[go_sem,f1,ge_iff_le,gt_iff_lt,f2,q1,q2,q3,q4,q5,t4];refine Ad AD ?_;simp only[go_sem];exact qa [] _ _
  have t4:((12:Int)<c4)=False:=eq_false u4;by_cases u5:4<c5
  .have t5:((4:Int)<c5)=True:=eq_true u5;simp only[go_sem,f1,ge_iff_le,gt_iff_lt,f2,q1,q2,q3,q4,q5,t4,t5];refine Ad AD ?_;simp only[go_sem];exact qa [] _ _
  have t5:((4:Int)<c5)=False:=eq_false u5;by_cases u6:2<(IntKind.i64.wrap (c6+1))
  .have t6:((2:Int)<(IntKind.i64.wrap (c6+1)))=True:=eq_true u6;simp only[go_sem,f1,ge_iff_le,gt_iff_lt,f2,q1,q2,q3,q4,q5,t4,t5,t6];refine Ad AD ?_;simp only[go_sem];exact qa [] _ _
  have t6:((2:Int)<(IntKind.i64.wrap (c6+1)))=False:=eq_false u6;by_cases u7:2<c7
  .have t7:((2:Int)<c7)=True:=eq_true u7;simp only[go_sem,f1,ge_iff_le,gt_iff_lt,f2,q1,q2,q3,q4,q5,t4,t5,t6,t7];refine Ad AD ?_;simp only[go_sem];exact qa [] _ _
  have t7:((2:Int)<c7)=False:=eq_false u7;simp only[go_sem,f1,ge_iff_le,gt_iff_lt,f2,q1,q2,q3,q4,q5,t4,t5,t6,t7,Aw (show i<9223372036854775807 by omega)];refine Ad AD ?_;simp only[go_sem,qf];refine Ax ho AB ?_;by_cases g3:0<=Bx (fun d:Dp=>d.nm==x.on) (l.take i)
  .have g4:=(Adx (fun d:Dp=>d.nm==x.on) (l.take i)).2;obtain⟨k,hk⟩:∃ k:Nat,Bx (fun d:Dp=>d.nm==x.on) (l.take i)=k:=⟨_,(Abo g3).symm⟩;rw[hk,Ic]at g4;obtain⟨y,hy,-,-⟩:=Bk (l:=l) (i:=k) AA;have jt:y.row=[iV y.kind,iV y.line,.str y.nm,iV y.size,iV y.init,.str y.on]:=rfl;have f3:((k:Int)<0)=False:=eq_false AA;rw[hk];cases q3b:(y.kind==3)
   .simp only[go_sem,f3,Ak,hy,jt,q3b,bne,Bc];refine Ad AD ?_;simp only[go_sem];exact qa [] _ _
   .simp only[go_sem,f3,Ak,hy,jt,q3b,bne,Ba,Aw (show i<9223372036854775807 by omega)];exact Ai (ih (i+1,_,c4,c5,(IntKind.i64.wrap (c6+1)),c7) AA h') rfl
  .rw[Aws g3];simp only[go_sem,Int.reduceLT,Int.reduceNeg];refine Ad AD ?_;simp only[go_sem];exact qa [] _ _
 have q1:(x.kind==1)=false:=by simp[h1]
 have q2:(x.kind==2)=false:=by simp[h2]
 have q3:(x.kind==3)=false:=by simp[h3]
 have q4:(x.kind==4)=false:=by simp[h4]
 have q5:(x.kind==5)=false:=by simp[h5]
 by_cases u4:12<c4
 .have t4:((12:Int)<c4)=True:=eq_true u4;simp only[go_sem,f1,ge_iff_le,gt_iff_lt,f2,q1,q2,q3,q4,q5,t4];refine Ad AD ?_;simp only[go_sem];exact qa [] _ _
 have t4:((12:Int)<c4)=False:=eq_false u4;by_cases u5:4<c5
 .have t5:((4:Int)<c5)=True:=eq_true u5;simp only[go_sem,f1,ge_iff_le,gt_iff_lt,f2,q1,q2,q3,q4,q5,t4,t5];refine Ad AD ?_;simp only[go_sem];exact qa [] _ _
 have t5:((4:Int)<c5)=False:=eq_false u5;by_cases u6:2<c6
 .have t6:((2:Int)<c6)=True:=eq_true u6;simp only[go_sem,f1,ge_iff_le,gt_iff_lt,f2,q1,q2,q3,q4,q5,t4,t5,t6];refine Ad AD ?_;simp only[go_sem];exact qa [] _ _
 have t6:((2:Int)<c6)=False:=eq_false u6;by_cases u7:2<(IntKind.i64.wrap (c7+1))
 .have t7:((2:Int)<(IntKind.i64.wrap (c7+1)))=True:=eq_true u7;simp only[go_sem,f1,ge_iff_le,gt_iff_lt,f2,q1,q2,q3,q4,q5,t4,t5,t6,t7];refine Ad AD ?_;simp only[go_sem];exact qa [] _ _
 have t7:((2:Int)<(IntKind.i64.wrap (c7+1)))=False:=eq_false u7;simp only[go_sem,f1,ge_iff_le,gt_iff_lt,f2,q1,q2,q3,q4,q5,t4,t5,t6,t7,Aw (show i<9223372036854775807 by omega)];exact Ai (ih (i+1,_,c4,c5,c6,(IntKind.i64.wrap (c7+1))) AA h') rfl
set_option maxHeartbeats 4000000 in
def A0y{p:Gp}(hp:LnG p):∃ v,Fn TT PT 73 [.agg p.row] v/\Xu v:=by
 obtain⟨dz,dt,decls,tz,tt,thrs⟩:=p;obtain⟨h1,h2,h3⟩:=hp;simp only at h1 h2 h3 ⊢;unfold Gp.row;simp only;have n1:(decls.map Dp.row).length=decls.length:=Av ..;have n2:(thrs.map Tp.row).length=thrs.length:=Av ..;refine Om T73 rfl ?_;have qa:∀ (s:St) (e ln:Int),∃ v,some (V.tup [iV e,iV ln])=some v/\(Cd v=true/\v.refs=[]/\Eg [] v=some v)/\Xu v:=fun _ e ln=>⟨_,rfl,⟨rfl,rfl,rfl⟩,e,ln,rfl⟩
 simp only[go_sem];refine Bb (α:=Nat × St) (fun a=>thrs.length - a.1) (fun a=>[(1,.ptr 0 0 0),(4,iV (a.1:Int))]) (fun a=>a.2) (fun a=>a.1<=thrs.length/\a.2[0]?=some (.row [SL dz dt (decls.map Dp.row),SL tz tt (thrs.map Tp.row)] 34 0 0)) ?_ (0,_) ⟨As _,rfl⟩;rintro⟨i,s⟩ ⟨hi,hs⟩ ih;simp only at hi hs ih;refine Ay Blh ?_;rcases Az i thrs.length with h' | h'
 .obtain⟨x,hx,-,-⟩:=Bk h';have qe:x.row=(tR x):=rfl;obtain⟨s',qi⟩:∃ s',s'=s++[tO x]:=⟨_,rfl⟩;have k1:s'[s.length]?=some (tO x):=by rw[qi,Fk (Am _),Iu];rfl
  have k0:s'[0]?=some (.row [SL dz dt (decls.map Dp.row),SL tz tt (thrs.map Tp.row)] 34 0 0):=by rw[qi];exact Bt hs
  have hd:=Wt dz dt decls x.nm AA;obtain⟨z2,t2,qf⟩:=Ye tz tt 4 (thrs.map Tp.row) .i64 i AA;rw[<-Vo]at qf;have ht:=Aer z2 t2 (thrs.take i) x.nm (by grind);simp only[go_sem,hs,n2,Aq h',Ak,hx,qe];rw[<-qi];refine Ad AD ?_;simp only[go_sem,k0,k1];refine Ax hd AB ?_;by_cases g1:0<=Bx (fun d:Dp=>d.nm==x.nm) decls
  .have f1:(0<=Bx (fun d:Dp=>d.nm==x.nm) decls)=True:=eq_true g1;simp only[go_sem,f1,ge_iff_le];refine Ad AD ?_;simp only[go_sem,k1];exact qa [] _ _
  have f1:(0<=Bx (fun d:Dp=>d.nm==x.nm) decls)=False:=eq_false g1;simp only[go_sem,f1,ge_iff_le,k0,k1,qf];refine Ax ht AB ?_;by_cases g2:0<=Bx (fun d:Tp=>d.nm==x.nm) (thrs.take i)
  .have f2:(0<=Bx (fun d:Tp=>d.nm==x.nm) (thrs.take i))=True:=eq_true g2;simp only[go_sem,f2,ge_iff_le];refine Ad AD ?_;simp only[go_sem,k1];exact qa [] _ _
  have f2:(0<=Bx (fun d:Tp=>d.nm==x.nm) (thrs.take i))=False:=eq_false g2;simp only[go_sem,f2,ge_iff_le,Aw (show i<9223372036854775807 by omega)];exact Ai (ih (i+1,s') AA ⟨h',k0⟩) rfl
 simp only[go_sem,hs,n2,Bj h'];clear ih;refine Bb (α:=Nat × St) (fun a=>thrs.length - a.1) (fun a=>[(1,.ptr 0 0 0),(6,iV (a.1:Int))]) (fun a=>a.2) (fun a=>a.1<=thrs.length/\a.2[0]?=some (.row [SL dz dt (decls.map Dp.row),SL tz tt (thrs.map Tp.row)] 34 0 0)) ?_ (0,s) ⟨As _,hs⟩;clear hs hi h' i s;rintro⟨i,s⟩ ⟨hi,hs⟩ ih;simp only at hi hs ih;refine Ay Blj ?_;rcases Az i thrs.length with h' | h';rotate_left
 .simp only[go_sem,hs,n2,Bj h'];exact qa [] _ _
 obtain⟨x,hx,-,hm⟩:=Bk h';have jF:=h3 x hm;have n3:(x.locals.map fun s=>[V.str s]).length=x.locals.length:=Av ..;have qe:x.row=(tR x):=rfl;obtain⟨s',qi⟩:∃ s',s'=s++[tO x]:=⟨_,rfl⟩;have k1:s'[s.length]?=some (tO x):=by rw[qi,Fk (Am _),Iu];rfl
 have k0:s'[0]?=some (.row [SL dz dt (decls.map Dp.row),SL tz tt (thrs.map Tp.row)] 34 0 0):=by rw[qi];exact Bt hs
 by_cases g4:4<x.locals.length
 .have f4:((4:Int)<(x.locals.length:Int))=True:=eq_true AA;simp only[go_sem,hs,n2,Aq h',Ak,hx,qe];rw[<-qi];simp only[go_sem,k1,n3,gt_iff_lt,f4];refine Ad AD ?_;simp only[go_sem,k1];exact qa [] _ _
 have f4:((4:Int)<(x.locals.length:Int))=False:=eq_false AA;simp only[go_sem,hs,n2,Aq h',Ak,hx,qe];rw[<-qi];simp only[go_sem,k1,n3,gt_iff_lt,f4];refine Bb (α:=Nat) (fun k=>x.locals.length - k) (fun k=>[(1,.ptr 0 0 0),(6,iV (i:Int)),(7,.ptr s.length 0 0),(8,iV (k:Int))]) (fun _=>s') (fun k=>k<=x.locals.length) ?_ 0 (As _);rintro k hk jh;refine Ay Bli ?_;rcases Az k x.locals.length with g' | g';rotate_left
 .simp only[go_sem,k1,n3,Bj g',Aw (show i<9223372036854775807 by omega)];exact Ai (ih (i+1,s') AA ⟨h',k0⟩) rfl
 obtain⟨y,hy,-,-⟩:=Bk g';have hd:=Wt dz dt decls y AA;have ht:=Aer tz tt thrs y AA;obtain⟨z2,t2,qf⟩:=Ye x.lz x.lt 1 (x.locals.map fun s=>[V.str s]) .i64 k AA;rw[<-Vo]at qf;have ha:=Ws z2 t2 (x.locals.take k) y (by grind);simp only[go_sem,k1,k0,n3,Aq g',Ak,hy];refine Ab hd AB ?_;by_cases g1:0<=Bx (fun d:Dp=>d.nm==y) decls
 .have f1:(0<=Bx (fun d:Dp=>d.nm==y) decls)=True:=eq_true g1;simp only[go_sem,f1,ge_iff_le];refine Ad AD ?_;simp only[go_sem,k1];exact qa [] _ _
 have f1:(0<=Bx (fun d:Dp=>d.nm==y) decls)=False:=eq_false g1;simp only[go_sem,f1,ge_iff_le,k0,k1];refine Ab ht AB ?_;by_cases g2:0<=Bx (fun d:Tp=>d.nm==y) thrs
 .have f2:(0<=Bx (fun d:Tp=>d.nm==y) thrs)=True:=eq_true g2;simp only[go_sem,f2,ge_iff_le];refine Ad AD ?_;simp only[go_sem,k1];exact qa [] _ _
 have f2:(0<=Bx (fun d:Tp=>d.nm==y) thrs)=False:=eq_false g2;simp only[go_sem,f2,ge_iff_le,k1,qf];refine Ab ha AB ?_;by_cases g3:0<=Bx (·==y) (x.locals.take k)
 .have f3:(0<=Bx (·==y) (x.locals.take k))=True:=eq_true g3;simp only[go_sem,f3,ge_iff_le];refine Ad AD ?_;simp only[go_sem,k1];exact qa [] _ _
 have f3:(0<=Bx (·==y) (x.locals.take k))=False:=eq_false g3;simp only[go_sem,f3,ge_iff_le,Aw (show k<9223372036854775807 by omega)];exact Ai (jh (k+1) AA g') rfl
def Aky{p:Gp}(hp:LnG p):∀ (N:Nat) (l:List Sp),Cx (l.map Sp.row)<=N->N<=1000000000->Agg p l
 | 0,l,h,hN=>Aso hp AA fun x hx=>by
  have h1:=Jy (f:=Sp.row) hx;have h2:=Ng x;omega
 | N+1,l,h,hN=>Aso hp AA fun x hx=>by
  have h1:=Jy (f:=Sp.row) hx;have h2:=Ng x;exact⟨Aky hp N x.body AA AA,Aky hp N x.els AA AA⟩
def Nr(l:List Tp):Nat:=(l.map fun t=>Sp.szs t.body).sum
set_option maxHeartbeats 4000000 in
def A7q{p:Gp}(hb:C6 p.row<=1000000000)(hp:LnG p)(hz:Nr p.thrs<=1000000):∃ v,Fn TT PT 40 [.agg p.row] v/\Xu v:=by
 have hs:=Bg0 p hb;have kb:=Alz p;obtain⟨_,qd,ed,ld,rfl⟩:=A36 p.dz p.dt p.decls hp.d;obtain⟨_,qt,et,lt,rfl⟩:=A0y hp;have qG:=Afr p;have n2:(p.thrs.map Tp.row).length=p.thrs.length:=Av ..;have ht:=hp.t;obtain⟨jL,jM⟩:=Bbw qG;rw[U1]at hs qt qG ⊢;have qa:∀ (s:St) (e ln:Int),∃ v,some (V.tup [iV e,iV ln])=some v/\(Cd v=true/\v.refs=[]/\Eg [] v=some v)/\Xu v:=fun _ e ln=>⟨_,rfl,⟨rfl,rfl,rfl⟩,e,ln,rfl⟩
 refine Om T40 rfl ?_;cases hsh:shG p
 .rw[hsh]at hs;simp only[go_sem];refine Ab hs AB ?_;simp only[go_sem,Bc];exact qa [] _ _
 rw[hsh]at hs;simp only[go_sem];refine Ab hs AB ?_;simp only[go_sem,Ba];refine Ab qd AB ?_;cases y1:(ed==0)
 .simp only[go_sem,y1,bne,Bc];exact qa [] _ _
 by_cases g1:4<p.thrs.length
 .have f1:((4:Int)<(p.thrs.length:Int))=True:=eq_true AA;simp only[go_sem,y1,bne,Ba,n2,gt_iff_lt,f1];exact qa [] _ _
 have f1:((4:Int)<(p.thrs.length:Int))=False:=eq_false AA;simp only[go_sem,y1,bne,Ba,n2,gt_iff_lt,f1];refine Ab qt AB ?_;cases y2:(et==0)
 .simp only[go_sem,y2,bne,Bc];exact qa [] _ _
 simp only[go_sem,y2,bne,Ba];refine Bb (α:=Nat × Int) (fun a=>p.thrs.length - a.1) (fun a=>[(1,.ptr 0 0 0),(8,iV a.2),(9,iV (a.1:Int))]) (fun _=>[gO p]) (fun a=>a.1<=p.thrs.length) ?_ (0,0) (As _);rintro⟨i,n⟩ hi ih;simp only at hi ih;refine Ay Bky ?_;rcases Az i p.thrs.length with h' | h'
 .obtain⟨x,hx,-,hm⟩:=Bk h';have qX:=Jy (f:=Tp.row) hm;rw[Aar]at qX;have qe:x.row=(tR x):=rfl;obtain⟨_,qc,c,rfl⟩:=Ai0 1000000000 x.bz x.bt x.body AA (Am _);simp only[go_sem,n2,Aq h',Ak,hx,qe];refine Ab qc AB ?_;simp only[go_sem,Aw (show i<9223372036854775807 by omega)];exact Ai (ih (i+1,_) AS h') rfl
 clear ih;by_cases g2:60<n
 .have f2:((60:Int)<n)=True:=eq_true g2;simp only[go_sem,n2,Bj h',gt_iff_lt,f2];exact qa [] _ _
 have f2:((60:Int)<n)=False:=eq_false g2;simp only[go_sem,n2,Bj h',gt_iff_lt,f2,jL,jM]
 have jj:WK [gO p,Fc p 0 .nils .nils .nils] 1 p 0 .nils .nils .nils (([]:List Sp).map Sp.row) (([]:List (List UInt8)).map fun x=>[V.str x]) (([]:List (List UInt8)).map fun x=>[V.str x]):=by
  refine⟨rfl,Z3,Z3,Z3,by simp[V.refs],by simp[V.refs],by simp[V.refs],?_⟩;intro ob hm j hj;simp only[B7,Qi,or_false]at hm;rcases hm with rfl | rfl
  .simp[Ob.refs,Ah,N6]at hj
  .simp[Ob.refs,Ah,N6,V.refs]at hj
 refine Bb (α:=Nat × St × Int × V × V × V × List (List UInt8) × List (List UInt8)) (fun a=>p.thrs.length - a.1) (fun a=>[(1,.ptr 0 0 0),(10,.ptr 1 0 0),(11,iV (a.1:Int))]) (fun a=>a.2.1)
  (fun a=>a.1<=p.thrs.length/\WK a.2.1 1 p a.2.2.1 a.2.2.2.1 a.2.2.2.2.1 a.2.2.2.2.2.1 (([]:List Sp).map Sp.row) (a.2.2.2.2.2.2.1.map fun x=>[V.str x]) (a.2.2.2.2.2.2.2.map fun x=>[V.str x])/\(a.2.1[0]?=some (gO p)/\0 ∉ fp a.2.1 1)/\a.2.2.2.2.2.2.1.length+Nr (p.thrs.drop a.1)<=1000000/\a.2.2.2.2.2.2.2.length+Nr (p.thrs.drop a.1)<=1000000) ?_ (0,_,0,_,_,_,[],[]) ⟨As _,jj,⟨rfl,by rw[Sw jj];simp[V.refs]⟩,by simpa using hz,by simpa using hz⟩
 clear jj hi h' i g2 f2 n;rintro⟨i,s,th,uA,uS,uT,S,T⟩ ⟨hi,h1,⟨qx,jb⟩,hS,hT⟩ ih;simp only at hi h1 qx jb hS hT ih;refine Ay Bkz ?_;rcases Az i p.thrs.length with h' | h';rotate_left
 .simp only[go_sem,qx,n2,Bj h'];exact qa [] _ _
 obtain⟨x,hx,hd,hm⟩:=Bk h';have qX:=Jy (f:=Tp.row) hm;rw[Aar]at qX;have qe:x.row=(tR x):=rfl;have jK:Nr (p.thrs.drop i)=Sp.szs x.body+Nr (p.thrs.drop (i+1)):=by rw[hd];simp[Nr]
 obtain⟨h2,f2⟩:=Z8 (th':=(i:Int)) h1 (Am _) (fun _ _ _ _ _=>rfl) h1.a h1.s h1.t (fun j hj=>.inl hj) (fun j hj=>.inl hj) (fun j hj=>.inl hj) (fun j hj=>(h1.ad j hj).2) (fun j hj=>(h1.sd j hj).2) h1.cl;obtain⟨_,s2,q,⟨e,ln,rfl,vA,vS,vT,S2,T2,h3,f3,bS,bT⟩⟩:=Aky hp 1000000000 x.body AA (Am _) _ _ _ _ _ _ [] S T x.bz x.bt h2 AE AA AA;have hr:=h1.row;have jl:=F1 f2 f3;have l0:=(An.1 qx).1;have k2:s2[0]?=_:=(jl.2.1 0 l0 jb).trans qx;have k1:(s.set 1 (Fc p (i:Int) uA uS uT))[0]?=some (gO p):=by rw[B4 AA];exact qx
 have jH:0 ∉ fp s2 1:=fun hm=>by
  rcases jl.2.2 0 hm with h4 | h4
  .exact jb h4
  .omega
 simp only[go_sem,qx,n2,Aq h',hr,k1,Ak,hx,qe];refine Bv q ?_;cases y3:(e==0)
 .simp only[go_sem,y3,bne,Bc];exact qa [] _ _
 simp only[go_sem,y3,bne,Ba,Aw (show i<9223372036854775807 by omega)];exact Ai (ih (i+1,s2,_,vA,vS,vT,S2,T2) AS ⟨h',h3,⟨k2,jH⟩,by simp only;omega,by simp only;omega⟩) rfl
