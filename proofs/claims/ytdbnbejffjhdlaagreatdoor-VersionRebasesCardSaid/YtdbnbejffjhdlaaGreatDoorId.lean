/- Walks: one statement as the static rules see it. -/
import Derived.Test.YtdbnbejffjhdlaaGreatDoorQs
set_option linter.all false
namespace Go.Proofs.YtdbnbejffjhdlaaGreatDoor.KM
open Go
def rdP{s:St}{ob k off n x:Nat}{cs vs:List V}{e:Env}(q:s[ob]?=some (.row cs k 0 0))(he:e.get x=.ptr ob 0 off)(hl:off+n<=cs.length)(hv:(cs.drop off).take n=vs):Af (.load n false (.t x)) e s=some (.agg vs,s):=by
 simp only[Af,Ac,he,H6,q];rw[if_pos ⟨trivial,hl⟩,hv];rfl
def Pp{v:V}(h:v.cellB=true):v.cells=[v]/\[v].all V.cellB=true:=⟨by cases v<;>simp[V.cellB]at h<;>rfl,by simp only[Bp,Ce,h];rfl⟩
def Aml{σ:St}{u:V}{L:List (List UInt8)}(h:GS σ 1 9 u (L.map fun x=>[V.str x])):∃ z,OV σ u (SL z 0 (L.map fun x=>[V.str x])):=by
 obtain⟨z,hz⟩:=Amk h AA;exact⟨z,Oo hz (J7 h)⟩
def Azy(w:Nat)(p:Gp)(th:Int)(uA:V)(A:List (List V))(S T:List (List UInt8))(σ:St)(v:V)(σ':St):Prop:=∃ e:Int,v=iV e/\∃ (vS vT:V) (S' T':List (List UInt8)),WK σ' w p th uA vS vT A (S'.map fun x=>[V.str x]) (T'.map fun x=>[V.str x])/\FW w σ σ'/\S'.length<=S.length+1/\T'.length<=T.length+1
set_option maxHeartbeats 8000000 in
def Bhu{σ:St}{w:Nat}{p:Gp}{th:Int}{uA uS uT:V}{X:List Sp}{S T:List (List UInt8)}(h:WK σ w p th uA uS uT (X.map Sp.row) (S.map fun x=>[V.str x]) (T.map fun x=>[V.str x]))(hp:LnG p)(hX:X.length<=1000000)(hS:S.length<=1000000)(hT:T.length<=1000000)(x:Sp)(hx:C5 x.row<=1000000000):
  ∃ v σ',Th TT PT 126 [.ptr w 0 0,.agg x.row] σ v σ'/\Azy w p th uA (X.map Sp.row) S T σ v σ':=by
 obtain⟨op,line,nm,arg,iz,it,idx,ex,bz,bt,body,ez,et,els⟩:=x;have qZ:=hx;rw[Nu]at qZ;simp only at qZ;have qy:=Hg ⟨op,line,nm,arg,iz,it,idx,ex,bz,bt,body,ez,et,els⟩;rw[Fq]at qy ⊢;simp only at qy ⊢;obtain⟨_,jD,jW,rfl,-⟩:=Ou hp th nm 8 1;obtain⟨_,jC,jU,rfl,-⟩:=Ou hp th nm 2 2;obtain⟨_,jj,jz,rfl,-⟩:=Ou hp th nm 3 3;obtain⟨_,qK,qT,rfl,-⟩:=Ou hp th nm 4 4;obtain⟨_,qv,qq,rfl,qV⟩:=Ou hp th nm 5 5;obtain⟨_,qB,qz,rfl,-⟩:=Ou hp th nm 7 7;obtain⟨_,jk,jA,rfl,-⟩:=Ou hp th nm 6 6;obtain⟨_,jE,jX,rfl,-⟩:=Ou hp th nm 8 8;obtain⟨_,jm,jY,rfl,-⟩:=Ou hp th arg 6 6;obtain⟨_,q0,e0,rfl⟩:=As1 hp th ex AA;have jB:=Afj p.tz p.tt p.thrs nm (by have:=hp.t;omega);have qw:=Xj p.dz p.dt p.decls nm (by have:=hp.d;omega);rw[Vi]at jD jC jj qK qv qB jk jE jm q0;rw[Bj]at q0;have qJ:=Af9 p;rw[Vi]at qJ;have hw:=Ti h;refine Akg T126 rfl ?_;refine Ge (fun e s=>e=[(0,.ptr w 0 0),(3,.ptr σ.length 0 0)]/\s=σ++[sO op line nm arg iz it idx ex.op ex.n ex.nm ex.z ex.t ex.l bz bt body ez et els]) (fun k' hk=>?_) ?_
 .simp only[go_sem];exact hk _ _ ⟨rfl,rfl⟩
 rintro e s ⟨rfl,rfl⟩;refine Ge (fun e s=>∃ n m:Nat,e=[(0,.ptr w 0 0),(3,.ptr n 0 0),(5,.ptr m 0 0),(6,iV th)]/\(WK s w p th uA uS uT (X.map Sp.row) (S.map fun x=>[V.str x]) (T.map fun x=>[V.str x])/\FW w σ s)/\(σ.length<=n/\σ.length<=m)/\s[n]?=some (sO op line nm arg iz it idx ex.op ex.n ex.nm ex.z ex.t ex.l bz bt body ez et els)/\s[m]?=some (gO p)) (fun k' hk=>?_) ?_
 .have qL:=h.row;have hr:=Bs (l:=[sO op line nm arg iz it idx ex.op ex.n ex.nm ex.z ex.t ex.l bz bt body ez et els]) h.row;have jG:Cl (σ++[sO op line nm arg iz it idx ex.op ex.n ex.nm ex.z ex.t ex.l bz bt body ez et els]):=Jj h.cl qy;have ja:Cl (σ++[sO op line nm arg iz it idx ex.op ex.n ex.nm ex.z ex.t ex.l bz bt body ez et els]++[gO p]):=Jj jG qJ;rw[Dk]at ja;refine Ad AD ?_;simp only[go_sem,hr];refine Be (h2:=⟨.inr ⟨rd1 hr rfl rfl,rd1 (Bs qL) rfl rfl⟩,.inr ⟨rdP hr rfl (Nat.le_of_ble_eq_true rfl) rfl,rdP (Bs qL) rfl (Nat.le_of_ble_eq_true rfl) rfl⟩,trivial⟩) ?_;simp only[go_sem];refine Be (h2:=⟨.inr ⟨rd1 (Bs qL) rfl rfl,rd1 (Bs qL) rfl rfl⟩,.inl rfl,trivial⟩) ?_;simp only[go_sem];refine hk _ _ ⟨σ.length,σ.length+1,by first | rfl | simp,?_,?_,?_,?_⟩
  .first | exact⟨Akf h _ ja,Aem _ hw⟩ | (rw[Dk];exact⟨Akf h _ ja,Aem _ hw⟩)
  .omega
  .simp
  .simp
 rintro e s ⟨n,m,rfl,⟨h1,f1⟩,⟨hn,hm⟩,k3,k5⟩;have hr:=h1.row;refine Ge (fun e s'=>s'=s/\∃ tx,e=[(0,.ptr w 0 0),(3,.ptr n 0 0),(5,.ptr m 0 0),(6,iV th),(7,.bool tx)]) (fun k' hk=>?_) ?_
 .obtain⟨_,i1,z1,rfl⟩:=Qw h1 AA 7 7 [];simp only[go_sem];refine B8 i1 ?_;simp only[go_sem];exact hk _ _ ⟨rfl,_,rfl⟩
 rintro e s' ⟨qj,tx,rfl⟩;obtain rfl:=qj.symm;refine Ge (fun e s'=>s'=s/\∃ ao,e=[(0,.ptr w 0 0),(3,.ptr n 0 0),(5,.ptr m 0 0),(6,iV th),(7,.bool tx),(8,.bool ao)]) (fun k' hk=>?_) ?_
 .obtain⟨_,i1,z1,rfl⟩:=Qw h1 AA 8 8 [];simp only[go_sem];refine B8 i1 ?_;simp only[go_sem];exact hk _ _ ⟨rfl,_,rfl⟩
 rintro e s' ⟨qj,ao,rfl⟩;obtain rfl:=qj.symm;refine Ge (fun e s'=>s'=s/\∃ lp,e=[(0,.ptr w 0 0),(3,.ptr n 0 0),(5,.ptr m 0 0),(6,iV th),(7,.bool tx),(8,.bool ao),(9,.bool lp)]) (fun k' hk=>?_) ?_
 .obtain⟨_,i1,z1,rfl⟩:=Qw h1 AA 3 3 [];simp only[go_sem];refine B8 i1 ?_;simp only[go_sem];exact hk _ _ ⟨rfl,_,rfl⟩
 rintro e s' ⟨qj,lp,rfl⟩;obtain rfl:=qj.symm
 have qi:∀ j,σ.length<=j->j ∉ fp s w:=fun j hj hm=>by
  rw[Tj h1]at hm;have g1:=Tj h;simp only[Bo,Ch]at hm;rcases hm with rfl | hm | hm | hm
  .omega
  .have:=Cv h.a j hm;omega
  .have:=Cv h.s j hm;omega
  .have:=Cv h.t j hm;omega
 have qa:∀ r:Int,∃ v,some (iV r)=some v/\(Cb v=true/\v.refs=[])/\(σ.length<=s.length/\Cl s)/\Azy w p th uA (X.map Sp.row) S T σ v s:=fun r=>⟨_,rfl,⟨rfl,rfl⟩,⟨f1.1,h1.cl⟩,r,rfl,_,_,S,T,h1,f1,by omega,by omega⟩
 by_cases o1:op=1
 .subst o1
  cases idx with
  | nil=>
   obtain⟨_,oq,r2,rfl⟩:=Hb jW e0;simp only[go_sem,Int.reduceBEq,k3,k5,hr,Bz,Dq];refine Ad AD ?_;simp only[go_sem,Int.reduceBEq,k3,k5,hr];refine Ax jD AB ?_;simp only[go_sem,Int.reduceBEq,k3,k5,hr];refine Ax q0 AB ?_;simp only[go_sem,Int.reduceBEq,k3,k5,hr];refine Ax oq AB ?_;simp only[go_sem];exact qa _
  | cons a r=>
   have ke:=J5 (f:=Xp.row) (l:=a::r) (x:=a) AE;obtain⟨_,q1,e1,rfl⟩:=As1 hp th a AA;rw[Vi,Bj]at q1;have jL:((r.length:Int)+1==0)=false:=by simp;omega
   have jc:(((r.length+1:Nat):Int)==0)=false:=by simp;omega
   have jq:=Bj a;obtain⟨_,oq,r2,rfl⟩:=Hb e1 e0;obtain⟨_,je,r3,rfl⟩:=Hb jU r2;simp only[go_sem,Int.reduceBEq,k3,k5,hr,A2,Bg,Aj,jL,jc];refine Ad AD ?_;simp only[go_sem,Int.reduceBEq,k3,k5,hr,A2,Tw,jq];refine Ax jC AB ?_;simp only[go_sem,Int.reduceBEq,k3,k5,hr,A2,Tw,jq];refine Ax q1 AB ?_;simp only[go_sem,Int.reduceBEq,k3,k5,hr];refine Ax q0 AB ?_;simp only[go_sem,Int.reduceBEq,k3,k5,hr];refine Ax oq AB ?_;simp only[go_sem,Int.reduceBEq,k3,k5,hr];refine Ax je AB ?_;simp only[go_sem];exact qa _
 have o1:(op==1)=false:=by simp[o1]
 by_cases o2:op=2
 .subst o2;simp only[go_sem,Int.reduceBEq,k3,k5,hr];refine Ab q0 AB ?_;simp only[go_sem];exact qa _
 have o2:(op==2)=false:=by simp[o2]
 by_cases o3:op=3
 .subst o3;simp only[go_sem,Int.reduceBEq,k3,k5,hr];refine Ab q0 AB ?_;simp only[go_sem];exact qa _
 have o3:(op==3)=false:=by simp[o3]
 by_cases o4:op=4
 .subst o4;cases tx
  .obtain⟨_,i1,z1,rfl⟩:=Qw h1 AA 4 4 nm;obtain⟨_,nq,r1,rfl⟩:=Hs z1;obtain⟨_,oq,r2,rfl⟩:=Hb jz r1;simp only[go_sem,Int.reduceBEq,k3,k5,hr];refine Ab jj AB ?_;simp only[go_sem,Int.reduceBEq,k3,k5,hr];refine B8 i1 ?_;simp only[go_sem,Int.reduceBEq,k3,k5,hr];refine Ab nq AB ?_;simp only[go_sem];refine Ab oq AB ?_;simp only[go_sem];exact qa _
  .obtain⟨_,nq,r1,rfl⟩:=Hs true;obtain⟨_,oq,r2,rfl⟩:=Hb jz r1;simp only[go_sem,Int.reduceBEq,k3,k5,hr];refine Ab jj AB ?_;simp only[go_sem,Int.reduceBEq,k3,k5,hr];refine Ab nq AB ?_;simp only[go_sem];refine Ab oq AB ?_;simp only[go_sem];exact qa _
 have o4:(op==4)=false:=by simp[o4]
 by_cases o5:op=5
 .subst o5;cases tx
  .obtain⟨_,i1,z1,rfl⟩:=Qw h1 AA 5 6 nm;obtain⟨_,nq,r1,rfl⟩:=Hs z1;obtain⟨_,oq,r2,rfl⟩:=Hb qT r1;simp only[go_sem,Int.reduceBEq,k3,k5,hr];refine Ab qK AB ?_;simp only[go_sem,Int.reduceBEq,k3,k5,hr];refine B8 i1 ?_;simp only[go_sem,Int.reduceBEq,k3,k5,hr];refine Ab nq AB ?_;simp only[go_sem];refine Ab oq AB ?_;simp only[go_sem];exact qa _
  .obtain⟨_,nq,r1,rfl⟩:=Hs true;obtain⟨_,oq,r2,rfl⟩:=Hb qT r1;simp only[go_sem,Int.reduceBEq,k3,k5,hr];refine Ab qK AB ?_;simp only[go_sem,Int.reduceBEq,k3,k5,hr];refine Ab nq AB ?_;simp only[go_sem];refine Ab oq AB ?_;simp only[go_sem];exact qa _
 have o5:(op==5)=false:=by simp[o5]
 by_cases o6:op=6
 .subst o6;cases tx
  .obtain⟨_,i1,z1,rfl⟩:=Qw h1 AA 5 6 nm;obtain⟨_,nq,r1,rfl⟩:=Hs z1;obtain⟨_,oq,r2,rfl⟩:=Hb qT r1;simp only[go_sem,Int.reduceBEq,k3,k5,hr];refine Ab qK AB ?_;simp only[go_sem,Int.reduceBEq,k3,k5,hr];refine B8 i1 ?_;simp only[go_sem,Int.reduceBEq,k3,k5,hr];refine Ab nq AB ?_;simp only[go_sem];refine Ab oq AB ?_;simp only[go_sem];exact qa _
  .obtain⟨_,nq,r1,rfl⟩:=Hs true;obtain⟨_,oq,r2,rfl⟩:=Hb qT r1;simp only[go_sem,Int.reduceBEq,k3,k5,hr];refine Ab qK AB ?_;simp only[go_sem,Int.reduceBEq,k3,k5,hr];refine Ab nq AB ?_;simp only[go_sem];refine Ab oq AB ?_;simp only[go_sem];exact qa _
 have o6:(op==6)=false:=by simp[o6]
 by_cases o7:op=7
 .subst o7;obtain⟨_,nq,r1,rfl⟩:=Hs tx;simp only[go_sem,Int.reduceBEq,k3,k5,hr];refine Ab nq AB ?_;simp only[go_sem];exact qa _
 have o7:(op==7)=false:=by simp[o7]
 by_cases o8:op=8
 .subst o8;cases tx
  .obtain⟨_,nq,r1,rfl⟩:=Hs ao;simp only[go_sem,Int.reduceBEq,k3,k5,hr];refine Ab nq AB ?_;simp only[go_sem];exact qa _
  .obtain⟨_,nq,r1,rfl⟩:=Hs true;simp only[go_sem,Int.reduceBEq,k3,k5,hr];refine Ab nq AB ?_;simp only[go_sem];exact qa _
 have o8:(op==8)=false:=by simp[o8]
 by_cases o9:op=9
 .subst o9;by_cases z5:qq=0;rotate_left
  .have y5:(qq==0)=false:=by simp[z5]
   simp only[go_sem,Int.reduceBEq,k3,k5,hr];refine Ab qv AB ?_;simp only[go_sem,Int.reduceBEq,k3,k5,hr,y5,bne,Bd];exact qa _
  have y5:(qq==0)=true:=by simp[z5]
  obtain⟨i,d,di,hd,js⟩:=Aep (qV rfl rfl z5)
  rw[di]at qw
  have qF:d.row=[iV d.kind,iV d.line,.str d.nm,iV d.size,iV d.init,.str d.on]:=rfl;obtain⟨_,i1,z1,rfl⟩:=Qw h1 AA 4 4 d.on;simp only[go_sem,Int.reduceBEq,k3,k5,hr];refine Ab qv AB ?_;simp only[go_sem,Int.reduceBEq,k3,k5,hr,y5,bne,Ba];refine Ad AD ?_;simp only[go_sem,Int.reduceBEq,k3,k5,hr];refine Ax qw AB ?_;simp only[go_sem,Int.reduceBEq,k3,k5,hr,Ai,hd,qF];refine Aaf i1 (by repeat (first | exact trivial | refine⟨.inl AK,?_⟩ | refine⟨by rfl,?_⟩ | refine⟨.inr ⟨by rfl,by rfl⟩,?_⟩)) (by repeat (first | exact trivial | refine⟨.inl AK,?_⟩ | refine⟨by rfl,?_⟩ | refine⟨.inr ⟨by rfl,by rfl⟩,?_⟩ | refine⟨.inr ⟨by(first | exact K5 rfl rfl | exact Er rfl ⟨_,_,by assumption,by rfl⟩ | exact Er rfl ⟨_,_,Bs AN,by rfl⟩ | exact Es AN rfl AK | exact Es (Bs AN) rfl AK),by(first | exact K5 rfl rfl | exact Er rfl ⟨_,_,by assumption,by rfl⟩ | exact Er rfl ⟨_,_,Bs AN,by rfl⟩ | exact Es AN rfl AK | exact Es (Bs AN) rfl AK)⟩,?_⟩)) ?_;simp only[go_sem]
  cases tx<;>cases z1<;>cases ao
  all_goals
   simp only[go_sem,Int.reduceBEq,k3,k5,hr,Ba,Bd]
   first
    | exact(Hs true).elim fun _ ⟨nq,r1,er⟩=>by subst er;exact Ab nq AB (by simp only[go_sem];exact qa _)
    | exact(Hs false).elim fun _ ⟨nq,r1,er⟩=>by subst er;exact Ab nq AB (by simp only[go_sem];exact qa _)
 have o9:(op==9)=false:=by simp[o9]
 by_cases qO:op=10
 .subst qO;by_cases z5:qq=0;rotate_left
  .have y5:(qq==0)=false:=by simp[z5]
   simp only[go_sem,Int.reduceBEq,k3,k5,hr];refine Ab qv AB ?_;simp only[go_sem,Int.reduceBEq,k3,k5,hr,y5,bne,Bd];exact qa _
  have y5:(qq==0)=true:=by simp[z5]
  obtain⟨i,d,di,hd,js⟩:=Aep (qV rfl rfl z5)
  rw[di]at qw
  have qF:d.row=[iV d.kind,iV d.line,.str d.nm,iV d.size,iV d.init,.str d.on]:=rfl;obtain⟨_,i1,z1,rfl⟩:=Qw h1 AA 4 4 d.on;simp only[go_sem,Int.reduceBEq,k3,k5,hr];refine Ab qv AB ?_;simp only[go_sem,Int.reduceBEq,k3,k5,hr,y5,bne,Ba];refine Ad AD ?_;simp only[go_sem,Int.reduceBEq,k3,k5,hr];refine Ax qw AB ?_;simp only[go_sem,Int.reduceBEq,k3,k5,hr,Ai,hd,qF];refine Aaf i1 (by repeat (first | exact trivial | refine⟨.inl AK,?_⟩ | refine⟨by rfl,?_⟩ | refine⟨.inr ⟨by rfl,by rfl⟩,?_⟩)) (by repeat (first | exact trivial | refine⟨.inl AK,?_⟩ | refine⟨by rfl,?_⟩ | refine⟨.inr ⟨by rfl,by rfl⟩,?_⟩ | refine⟨.inr ⟨by(first | exact K5 rfl rfl | exact Er rfl ⟨_,_,by assumption,by rfl⟩ | exact Er rfl ⟨_,_,Bs AN,by rfl⟩ | exact Es AN rfl AK | exact Es (Bs AN) rfl AK),by(first | exact K5 rfl rfl | exact Er rfl ⟨_,_,by assumption,by rfl⟩ | exact Er rfl ⟨_,_,Bs AN,by rfl⟩ | exact Es AN rfl AK | exact Es (Bs AN) rfl AK)⟩,?_⟩)) ?_;simp only[go_sem]
  cases tx<;>cases z1<;>cases ao
  all_goals
   simp only[go_sem,Int.reduceBEq,k3,k5,hr,Ba,Bd]
   first
    | exact(Hs true).elim fun _ ⟨nq,r1,er⟩=>by subst er;exact Ab nq AB (by simp only[go_sem];exact qa _)
    | exact(Hs false).elim fun _ ⟨nq,r1,er⟩=>by subst er;exact Ab nq AB (by simp only[go_sem];exact qa _)
 have qO:(op==10)=false:=by simp[qO]
 by_cases qP:op=11
 .subst qP;by_cases z5:qq=0;rotate_left
  .have y5:(qq==0)=false:=by simp[z5]
   simp only[go_sem,Int.reduceBEq,k3,k5,hr];refine Ab qv AB ?_;simp only[go_sem,Int.reduceBEq,k3,k5,hr,y5,bne,Bd];exact qa _
  have y5:(qq==0)=true:=by simp[z5]
  obtain⟨i,d,di,hd,js⟩:=Aep (qV rfl rfl z5)
  rw[di]at qw
  have qF:d.row=[iV d.kind,iV d.line,.str d.nm,iV d.size,iV d.init,.str d.on]:=rfl;obtain⟨_,i1,z1,rfl⟩:=Qw h1 AA 4 4 d.on;simp only[go_sem,Int.reduceBEq,k3,k5,hr];refine Ab qv AB ?_;simp only[go_sem,Int.reduceBEq,k3,k5,hr,y5,bne,Ba];refine Ad AD ?_;simp only[go_sem,Int.reduceBEq,k3,k5,hr];refine Ax qw AB ?_;simp only[go_sem,Int.reduceBEq,k3,k5,hr,Ai,hd,qF];refine Aaf i1 (by repeat (first | exact trivial | refine⟨.inl AK,?_⟩ | refine⟨by rfl,?_⟩ | refine⟨.inr ⟨by rfl,by rfl⟩,?_⟩)) (by repeat (first | exact trivial | refine⟨.inl AK,?_⟩ | refine⟨by rfl,?_⟩ | refine⟨.inr ⟨by rfl,by rfl⟩,?_⟩ | refine⟨.inr ⟨by(first | exact K5 rfl rfl | exact Er rfl ⟨_,_,by assumption,by rfl⟩ | exact Er rfl ⟨_,_,Bs AN,by rfl⟩ | exact Es AN rfl AK | exact Es (Bs AN) rfl AK),by(first | exact K5 rfl rfl | exact Er rfl ⟨_,_,by assumption,by rfl⟩ | exact Er rfl ⟨_,_,Bs AN,by rfl⟩ | exact Es AN rfl AK | exact Es (Bs AN) rfl AK)⟩,?_⟩)) ?_;simp only[go_sem]
  cases tx<;>cases z1<;>cases ao
  all_goals
   simp only[go_sem,Int.reduceBEq,k3,k5,hr,Ba,Bd]
   first
    | exact(Hs true).elim fun _ ⟨nq,r1,er⟩=>by subst er;exact Ab nq AB (by simp only[go_sem];exact qa _)
    | exact(Hs false).elim fun _ ⟨nq,r1,er⟩=>by subst er;exact Ab nq AB (by simp only[go_sem];exact qa _)
 have qP:(op==11)=false:=by simp[qP]
 by_cases qQ:op=12
 .subst qQ;by_cases z7:qz=0;rotate_left
  .have y7:(qz==0)=false:=by simp[z7]
   simp only[go_sem,Int.reduceBEq,k3,k5,hr];refine Ab qB AB ?_;simp only[go_sem,Int.reduceBEq,k3,k5,hr,y7,bne,Bd];exact qa _
  have y7:(qz==0)=true:=by simp[z7]
  simp only[go_sem,Int.reduceBEq,k3,k5,hr];refine Ab qB AB ?_;simp only[go_sem,Int.reduceBEq,k3,k5,hr,y7,bne,Ba];refine Ab jB AB ?_;by_cases qU:tx=true\/ao=true\/lp=true\/By (fun d:Tp=>d.nm==nm) p.thrs=th\/By (fun d:Tp=>d.nm==nm) p.thrs=0
  .by_cases b1:By (fun d:Tp=>d.nm==nm) p.thrs=th<;>by_cases b2:By (fun d:Tp=>d.nm==nm) p.thrs=0<;>cases tx<;>cases ao<;>cases lp
   all_goals first | (exfalso;simp[b1,b2]at qU;done) | skip
   all_goals
    first | have y1:(By (fun d:Tp=>d.nm==nm) p.thrs==th)=true:=by simp[b1];done | have y1:(By (fun d:Tp=>d.nm==nm) p.thrs==th)=false:=by simp[b1];done
    first | have y2:(By (fun d:Tp=>d.nm==nm) p.thrs==0)=true:=by simp[b2];done | have y2:(By (fun d:Tp=>d.nm==nm) p.thrs==0)=false:=by simp[b2];done
    simp only[go_sem,Int.reduceBEq,k3,k5,hr,y1,y2];exact qa _
  simp only[not_or,V3]at qU;obtain⟨rfl,rfl,rfl,b1,b2⟩:=qU;have y1:(By (fun d:Tp=>d.nm==nm) p.thrs==th)=false:=by simp[b1]
  have y2:(By (fun d:Tp=>d.nm==nm) p.thrs==0)=false:=by simp[b2]
  simp only[go_sem,Int.reduceBEq,k3,k5,hr,y1,y2];obtain⟨z,qI⟩:=Aml h1.s;have qE:=Xi z 0 S nm AA;refine Ad AD ?_;simp only[go_sem,Int.reduceBEq,k3,k5,hr];refine Aku (.cons qI (.cons (H2 rfl) .nil)) qE rfl ?_;by_cases c3:0<=By (·==nm) S
  .have f3:(0<=By (·==nm) S)=True:=eq_true c3;simp only[go_sem,Int.reduceBEq,k3,k5,hr,f3,ge_iff_le];exact qa _
  have f3:(0<=By (·==nm) S)=False:=eq_false c3;simp only[go_sem,Int.reduceBEq,k3,k5,hr,f3,ge_iff_le];obtain⟨u',s2,ha,qb,r2,h2,f2⟩:=Bo0 h1 nm AJ;obtain⟨qh,qg⟩:=Pp qb;refine Ad AD ?_;simp only[go_sem,Int.reduceBEq,k3,k5,hr,ha];refine Be ?_;simp only[go_sem,Int.reduceBEq,k3,k5,hr,r2,qh,qg];refine Be ?_;simp only[go_sem];exact⟨_,rfl,⟨rfl,rfl⟩,⟨Dc f1.1 f2.1,h2.cl⟩,_,rfl,_,_,S++[nm],T,by rw[Dl];exact h2,F4 f1 f2,by simp,by omega⟩
 have qQ:(op==12)=false:=by simp[qQ]
 by_cases qR:op=13
 .subst qR;cases tx;rotate_left
  .obtain⟨_,nq,r1,rfl⟩:=Hs true;obtain⟨_,oq,r2,rfl⟩:=Hb qz r1;simp only[go_sem,Int.reduceBEq,k3,k5,hr];refine Ab qB AB ?_;simp only[go_sem,Int.reduceBEq,k3,k5,hr];refine Ab nq AB ?_;simp only[go_sem];refine Ab oq AB ?_;simp only[go_sem];exact qa _
  cases ao;rotate_left
  .obtain⟨_,nq,r1,rfl⟩:=Hs true;obtain⟨_,oq,r2,rfl⟩:=Hb qz r1;simp only[go_sem,Int.reduceBEq,k3,k5,hr];refine Ab qB AB ?_;simp only[go_sem,Int.reduceBEq,k3,k5,hr];refine Ab nq AB ?_;simp only[go_sem];refine Ab oq AB ?_;simp only[go_sem];exact qa _
  obtain⟨_,nq,r1,rfl⟩:=Hs (By (fun d:Tp=>d.nm==nm) p.thrs==th);obtain⟨_,oq,r2,rfl⟩:=Hb qz r1;simp only[go_sem,Int.reduceBEq,k3,k5,hr];refine Ab qB AB ?_;simp only[go_sem,Int.reduceBEq,k3,k5,hr];refine Ab jB AB ?_;simp only[go_sem,Int.reduceBEq,k3,k5,hr];refine Ab nq AB ?_;simp only[go_sem];refine Ab oq AB ?_;simp only[go_sem];exact qa _
 have qR:(op==13)=false:=by simp[qR]
 by_cases qS:op=14
 .subst qS;cases tx
  .obtain⟨_,nq,r1,rfl⟩:=Hs lp;obtain⟨_,oq,r2,rfl⟩:=Hb jA r1;simp only[go_sem,Int.reduceBEq,k3,k5,hr];refine Ab jk AB ?_;simp only[go_sem,Int.reduceBEq,k3,k5,hr];refine Ab nq AB ?_;simp only[go_sem];refine Ab oq AB ?_;cases y:(r2==0)
   .simp only[go_sem,Int.reduceBEq,k3,k5,hr,y];refine Ad AD ?_;simp only[go_sem,Int.reduceBEq,k3,k5,hr,y];obtain⟨u',s2,ha,qb,qn,h2,f2⟩:=X5 h1 nm AJ;obtain⟨qh,qg⟩:=Pp qb;obtain⟨_,qm,r3,rfl⟩:=Hb r2 e0;have qk:(s2.set w (Fb p th uA uS u'))[n]?=some (sO 14 line nm arg iz it idx ex.op ex.n ex.nm ex.z ex.t ex.l bz bt body ez et els):=by rw[f2.2.1 n (Al.1 k3).1 (qi n hn)];exact k3
    have ql:(s2.set w (Fb p th uA uS u'))[m]?=some (gO p):=by rw[f2.2.1 m (Al.1 k5).1 (qi m hm)];exact k5
    refine Ad AD ?_;simp only[go_sem,Int.reduceBEq,k3,k5,hr,ha];refine Be ?_;simp only[go_sem,Int.reduceBEq,k3,k5,hr,qn,qh,qg];refine Be ?_;simp only[go_sem,qk,ql];refine Ab q0 AB ?_;simp only[go_sem];refine Ab qm AB ?_;simp only[go_sem];exact⟨_,rfl,⟨rfl,rfl⟩,⟨Dc f1.1 f2.1,h2.cl⟩,_,rfl,_,_,S,T++[nm],by rw[Dl];exact h2,F4 f1 f2,by omega,by simp⟩
   .obtain⟨z,qI⟩:=Aml h1.t;have qE:=Xi z 0 T nm AA;simp only[go_sem];refine Ad AD ?_;simp only[go_sem,Int.reduceBEq,k3,k5,hr,y];refine Aku (.cons qI (.cons (H2 rfl) .nil)) qE rfl ?_;by_cases c3:0<=By (·==nm) T
    .have f3:(0<=By (·==nm) T)=True:=eq_true c3;simp only[go_sem,Int.reduceBEq,k3,k5,hr,f3,ge_iff_le];obtain⟨u',s2,ha,qb,qn,h2,f2⟩:=X5 h1 nm AJ;obtain⟨qh,qg⟩:=Pp qb;obtain⟨_,qm,r3,rfl⟩:=Hb 8 e0;have qk:(s2.set w (Fb p th uA uS u'))[n]?=some (sO 14 line nm arg iz it idx ex.op ex.n ex.nm ex.z ex.t ex.l bz bt body ez et els):=by rw[f2.2.1 n (Al.1 k3).1 (qi n hn)];exact k3
     have ql:(s2.set w (Fb p th uA uS u'))[m]?=some (gO p):=by rw[f2.2.1 m (Al.1 k5).1 (qi m hm)];exact k5
     refine Ad AD ?_;simp only[go_sem,Int.reduceBEq,k3,k5,hr,ha];refine Be ?_;simp only[go_sem,Int.reduceBEq,k3,k5,hr,qn,qh,qg];refine Be ?_;simp only[go_sem,qk,ql];refine Ab q0 AB ?_;simp only[go_sem];refine Ab qm AB ?_;simp only[go_sem];exact⟨_,rfl,⟨rfl,rfl⟩,⟨Dc f1.1 f2.1,h2.cl⟩,_,rfl,_,_,S,T++[nm],by rw[Dl];exact h2,F4 f1 f2,by omega,by simp⟩
    .have f3:(0<=By (·==nm) T)=False:=eq_false c3;simp only[go_sem,Int.reduceBEq,k3,k5,hr,f3,ge_iff_le];obtain⟨u',s2,ha,qb,qn,h2,f2⟩:=X5 h1 nm AJ;obtain⟨qh,qg⟩:=Pp qb;obtain⟨_,qm,r3,rfl⟩:=Hb r2 e0;have qk:(s2.set w (Fb p th uA uS u'))[n]?=some (sO 14 line nm arg iz it idx ex.op ex.n ex.nm ex.z ex.t ex.l bz bt body ez et els):=by rw[f2.2.1 n (Al.1 k3).1 (qi n hn)];exact k3
     have ql:(s2.set w (Fb p th uA uS u'))[m]?=some (gO p):=by rw[f2.2.1 m (Al.1 k5).1 (qi m hm)];exact k5
     refine Ad AD ?_;simp only[go_sem,Int.reduceBEq,k3,k5,hr,ha];refine Be ?_;simp only[go_sem,Int.reduceBEq,k3,k5,hr,qn,qh,qg];refine Be ?_;simp only[go_sem,qk,ql];refine Ab q0 AB ?_;simp only[go_sem];refine Ab qm AB ?_;simp only[go_sem];exact⟨_,rfl,⟨rfl,rfl⟩,⟨Dc f1.1 f2.1,h2.cl⟩,_,rfl,_,_,S,T++[nm],by rw[Dl];exact h2,F4 f1 f2,by omega,by simp⟩
  .obtain⟨_,nq,r1,rfl⟩:=Hs true;obtain⟨_,oq,r2,rfl⟩:=Hb jA r1;simp only[go_sem,Int.reduceBEq,k3,k5,hr];refine Ab jk AB ?_;simp only[go_sem,Int.reduceBEq,k3,k5,hr];refine Ab nq AB ?_;simp only[go_sem];refine Ab oq AB ?_;cases y:(r2==0)
   .simp only[go_sem,Int.reduceBEq,k3,k5,hr,y];refine Ad AD ?_;simp only[go_sem,Int.reduceBEq,k3,k5,hr,y];obtain⟨u',s2,ha,qb,qn,h2,f2⟩:=X5 h1 nm AJ;obtain⟨qh,qg⟩:=Pp qb;obtain⟨_,qm,r3,rfl⟩:=Hb r2 e0;have qk:(s2.set w (Fb p th uA uS u'))[n]?=some (sO 14 line nm arg iz it idx ex.op ex.n ex.nm ex.z ex.t ex.l bz bt body ez et els):=by rw[f2.2.1 n (Al.1 k3).1 (qi n hn)];exact k3
    have ql:(s2.set w (Fb p th uA uS u'))[m]?=some (gO p):=by rw[f2.2.1 m (Al.1 k5).1 (qi m hm)];exact k5
    refine Ad AD ?_;simp only[go_sem,Int.reduceBEq,k3,k5,hr,ha];refine Be ?_;simp only[go_sem,Int.reduceBEq,k3,k5,hr,qn,qh,qg];refine Be ?_;simp only[go_sem,qk,ql];refine Ab q0 AB ?_;simp only[go_sem];refine Ab qm AB ?_;simp only[go_sem];exact⟨_,rfl,⟨rfl,rfl⟩,⟨Dc f1.1 f2.1,h2.cl⟩,_,rfl,_,_,S,T++[nm],by rw[Dl];exact h2,F4 f1 f2,by omega,by simp⟩
   .obtain⟨z,qI⟩:=Aml h1.t;have qE:=Xi z 0 T nm AA;simp only[go_sem];refine Ad AD ?_;simp only[go_sem,Int.reduceBEq,k3,k5,hr,y];refine Aku (.cons qI (.cons (H2 rfl) .nil)) qE rfl ?_;by_cases c3:0<=By (·==nm) T
    .have f3:(0<=By (·==nm) T)=True:=eq_true c3;simp only[go_sem,Int.reduceBEq,k3,k5,hr,f3,ge_iff_le];obtain⟨u',s2,ha,qb,qn,h2,f2⟩:=X5 h1 nm AJ;obtain⟨qh,qg⟩:=Pp qb;obtain⟨_,qm,r3,rfl⟩:=Hb 8 e0;have qk:(s2.set w (Fb p th uA uS u'))[n]?=some (sO 14 line nm arg iz it idx ex.op ex.n ex.nm ex.z ex.t ex.l bz bt body ez et els):=by rw[f2.2.1 n (Al.1 k3).1 (qi n hn)];exact k3
     have ql:(s2.set w (Fb p th uA uS u'))[m]?=some (gO p):=by rw[f2.2.1 m (Al.1 k5).1 (qi m hm)];exact k5
     refine Ad AD ?_;simp only[go_sem,Int.reduceBEq,k3,k5,hr,ha];refine Be ?_;simp only[go_sem,Int.reduceBEq,k3,k5,hr,qn,qh,qg];refine Be ?_;simp only[go_sem,qk,ql];refine Ab q0 AB ?_;simp only[go_sem];refine Ab qm AB ?_;simp only[go_sem];exact⟨_,rfl,⟨rfl,rfl⟩,⟨Dc f1.1 f2.1,h2.cl⟩,_,rfl,_,_,S,T++[nm],by rw[Dl];exact h2,F4 f1 f2,by omega,by simp⟩
    .have f3:(0<=By (·==nm) T)=False:=eq_false c3;simp only[go_sem,Int.reduceBEq,k3,k5,hr,f3,ge_iff_le];obtain⟨u',s2,ha,qb,qn,h2,f2⟩:=X5 h1 nm AJ;obtain⟨qh,qg⟩:=Pp qb;obtain⟨_,qm,r3,rfl⟩:=Hb r2 e0;have qk:(s2.set w (Fb p th uA uS u'))[n]?=some (sO 14 line nm arg iz it idx ex.op ex.n ex.nm ex.z ex.t ex.l bz bt body ez et els):=by rw[f2.2.1 n (Al.1 k3).1 (qi n hn)];exact k3
     have ql:(s2.set w (Fb p th uA uS u'))[m]?=some (gO p):=by rw[f2.2.1 m (Al.1 k5).1 (qi m hm)];exact k5
     refine Ad AD ?_;simp only[go_sem,Int.reduceBEq,k3,k5,hr,ha];refine Be ?_;simp only[go_sem,Int.reduceBEq,k3,k5,hr,qn,qh,qg];refine Be ?_;simp only[go_sem,qk,ql];refine Ab q0 AB ?_;simp only[go_sem];refine Ab qm AB ?_;simp only[go_sem];exact⟨_,rfl,⟨rfl,rfl⟩,⟨Dc f1.1 f2.1,h2.cl⟩,_,rfl,_,_,S,T++[nm],by rw[Dl];exact h2,F4 f1 f2,by omega,by simp⟩
 have qS:(op==14)=false:=by simp[qS]
 obtain⟨_,nq,r1,rfl⟩:=Hs tx;obtain⟨_,oq,r2,rfl⟩:=Hb jY r1;obtain⟨_,je,r3,rfl⟩:=Hb jX r2;simp only[go_sem,Int.reduceBEq,k3,k5,hr,o1,o2,o3,o4,o5,o6,o7,o8,o9,qO,qP,qQ,qR,qS];refine Ad AD ?_;simp only[go_sem,Int.reduceBEq,k3,k5,hr];refine Ax jE AB ?_;simp only[go_sem,Int.reduceBEq,k3,k5,hr];refine Ax jm AB ?_;simp only[go_sem,Int.reduceBEq,k3,k5,hr];refine Ax nq AB ?_;simp only[go_sem,Int.reduceBEq,k3,k5,hr];refine Ax oq AB ?_;simp only[go_sem,Int.reduceBEq,k3,k5,hr];refine Ax je AB ?_;simp only[go_sem];exact qa _
def Axe{σ τ:St}{n i g off:Nat}{v:V}(h:Q3 σ n (.ptr i g off) v=some τ):Abe σ[i]? σ n i g off v=some (.und,τ):=by
 rw[<-Ax8,Agi,h];rfl
def Bo1{σ:St}{w:Nat}{p:Gp}{th:Int}{uA uS uT:V}{X:List Sp}{S T:List (List V)}(h:WK σ w p th uA uS uT (X.map Sp.row) S T)(x:Sp)(hb:X.length<=1000):
  ∃ u' s3 j g Y,Dz 176 (11,104) uA (.lst 1 [(sZ 0 0 [] [])]) σ=some (u',s3)/\u'.cellB=true/\u'=.sl j g 0 (X.length+1) 11 true/\s3[w]?=some (Fb p th uA uS uT) /\
   Q3 s3 11 (.ptr j g (0+X.length*11)) (.agg x.row)=some (s3.set j Y)/\(s3.set j Y)[w]?=some (Fb p th uA uS uT) /\
   (∀ W',Q3 (s3.set w W') 11 (.ptr j g (0+X.length*11)) (.agg x.row)=some ((s3.set w W').set j Y)/\(s3.set w W').set j Y=(s3.set j Y).set w W') /\
   WK ((s3.set j Y).set w (Fb p th u' uS uT)) w p th u' uS uT ((X++[x]).map Sp.row) S T/\FW w σ ((s3.set j Y).set w (Fb p th u' uS uT))/\(∀ i,i<σ.length->i ∉ fp σ w->s3[i]?=σ[i]?/\(s3.set j Y)[i]?=σ[i]?):=by
 have hw:=Ti h;have n1:(X.map Sp.row).length=X.length:=Aj ..;obtain⟨u',s3,e1,g1,hl,hk,hr,hc⟩:=W4 (bytes:=176) (row:=(sZ 0 0 [] [])) h.a AA rfl rfl AA;obtain⟨j,g,cs',hu,hj,qu,jH⟩:=Bht (row:=x.row) g1 (Ol x) (Hg x);rw[n1]at hu qu;have jt:j∈u'.refs:=by rw[hu];simp[V.refs]
 have jJ:=hr j jt
 have ju:j≠w:=fun e=>by
  rcases jJ with h2 | h2
  .exact(h.ad j h2).1 e
  .omega
 have nn:∀ i,i<σ.length->i ∉ uA.refs->i ∉ u'.refs:=fun i hi h1 h2=>by
  rcases hr i h2 with h3 | h3
  .exact h1 h3
  .omega
 have nj:∀ i,i<σ.length->i ∉ uA.refs->i≠j:=fun i hi h1 e=>nn i hi h1 (e ▸ jt)
 have jp:∀ i,i<σ.length->i ∉ uA.refs->s3[i]?=σ[i]?:=hk
 have qD:∀ i,i<σ.length->i ∉ uA.refs->(s3.set j (.row cs' 104 g 0))[i]?=σ[i]?:=fun i hi h1=>by
  rw[Bk (Ne.symm (nj i hi h1))];exact hk i hi h1
 have jI:=Tj h;have jy:∀ i,i ∉ fp σ w->i ∉ uA.refs:=fun i hi h1=>hi (by rw[jI];simp[h1])
 have wA:w ∉ uA.refs:=fun e=>(h.ad w e).1 rfl
 have jf:s3[w]?=_:=(jp w hw wA).trans h.row;have jg:=(qD w hw wA).trans h.row;have c4:Cl (s3.set j (.row cs' 104 g 0)):=Fi (hc h.cl) (by simp only[Ob.refs,jH];simp);have qA:=qu s3 rfl;refine⟨u',s3,j,g,.row cs' 104 g 0,e1,J7 g1,hu,jf,qA.1,jg,fun W'=>⟨(qu (s3.set w W') (Bk (Ne.symm ju))).1,List.set_comm _ _ (Ne.symm ju)⟩,?_⟩
 have qH:=Aat (σ2:=s3.set j (.row cs' 104 g 0)) (th':=th) (A':=(X++[x]).map Sp.row) (vA:=u') h (by simpa using hl) (fun i hi h1 _ _=>qD i hi h1) (by rw[Dl];exact qA.2 hj) (Ig h.s fun i hi=>qD i (Cv h.s i hi) fun e=>(h.ad i e).2.1 hi) (Ig h.t fun i hi=>qD i (Cv h.t i hi) fun e=>(h.ad i e).2.2 hi) hr (fun i hi=>.inl hi) (fun i hi=>.inl hi)
  (fun i hi=>?_) (fun i hi=>(h.sd i hi).2) c4
 .exact⟨qH.1,qH.2,fun i hi h1=>⟨jp i hi (jy i h1),qD i hi (jy i h1)⟩⟩
 .refine⟨fun e=>?_,fun e=>?_⟩
  .exact nn i (Cv h.s i e) (fun e2=>(h.ad i e2).2.1 e) hi
  .exact nn i (Cv h.t i e) (fun e2=>(h.ad i e2).2.2 e) hi
def Azz{σ:St}{w:Nat}{p:Gp}{th:Int}{uA uS uT:V}{X:List Sp}{x:Sp}{S T:List (List V)}(h:WK σ w p th uA uS uT ((X++[x]).map Sp.row) S T):
  ∃ u',Hf 11 uA none (some (iV (X.length:Int))) none=some u'/\u'.cellB=true/\WK (σ.set w (Fb p th u' uS uT)) w p th u' uS uT (X.map Sp.row) S T/\FW w σ (σ.set w (Fb p th u' uS uT)):=by
 have h1:=h.a;rw[Dl,A2,Bz]at h1;obtain⟨u',e1,g1,hr⟩:=Aw9 h1;rw[Aj]at e1;exact⟨u',e1,J7 g1,Aat h (An _) (fun _ _ _ _ _=>rfl) g1 h.s h.t (fun j hj=>.inl (by rw[<-hr];exact hj)) (fun j hj=>.inl hj) (fun j hj=>.inl hj) (fun j hj=>(h.ad j (by rw[<-hr];exact hj)).2) (fun j hj=>(h.sd j hj).2) h.cl⟩
def Bo2(w:Nat)(p:Gp)(th:Int)(X:List Sp)(n:Nat)(S T:List (List UInt8))(σ:St)(v:V)(σ':St):Prop:=∃ e ln:Int,v=.tup [iV e,iV ln]/\∃ (vA vS vT:V) (S' T':List (List UInt8)),WK σ' w p th vA vS vT (X.map Sp.row) (S'.map fun x=>[V.str x]) (T'.map fun x=>[V.str x])/\FW w σ σ'/\S'.length<=S.length+n/\T'.length<=T.length+n
def As2{σ τ:St}{m j:Nat}(hw:FW m σ τ)(hl:j<σ.length)(hn:j ∉ fp σ m):τ[j]?=σ[j]?/\j ∉ fp τ m:=by
 refine⟨hw.2.1 j hl hn,fun hm=>?_⟩;rcases hw.2.2 j hm with h2 | h2
 .exact hn h2
 .omega
def A77{σ τ:St}{m j:Nat}{x:Ob}(hw:FW m σ τ)(hj:σ[j]?=some x)(hn:j ∉ fp σ m):τ[j]?=some x/\j ∉ fp τ m:=by
 have h:=As2 hw (Al.1 hj).1 hn;exact⟨h.1.trans hj,h.2⟩
def Agy(p:Gp)(l:List Sp):Prop:=∀ (σ:St) (w:Nat) (th:Int) (uA uS uT:V) (X:List Sp) (S T:List (List UInt8)) (z:Bool) (t:Nat),WK σ w p th uA uS uT (X.map Sp.row) (S.map fun x=>[V.str x]) (T.map fun x=>[V.str x])->X.length<=6->S.length+Sp.szs l<=1000000->T.length+Sp.szs l<=1000000 ->
  ∃ v σ',Th TT PT 79 [.ptr w 0 0,SL z t (l.map Sp.row)] σ v σ'/\Bo2 w p th X (Sp.szs l) S T σ v σ'
set_option maxHeartbeats 8000000 in
def As3{p:Gp}(hp:LnG p){l:List Sp}(hl:Cz (l.map Sp.row)<=1000000000)(IH:∀ x∈l,Agy p x.body/\Agy p x.els):Agy p l:=by
 intro σ w th uA uS uT X S T z t h hX hS hT;have kg:=Lr (f:=Sp.row) (fun x=>by rw[Nu];omega) l;have n1:(l.map Sp.row).length=l.length:=Aj ..;have hw:=Ti h;refine Akg T79 rfl ?_;simp only[go_sem]
 refine Bh (α:=Nat × St × V × V × V × List (List UInt8) × List (List UInt8)) (fun a=>l.length - a.1) (fun a=>[(0,.ptr w 0 0),(1,SL z t (l.map Sp.row)),(6,iV (a.1:Int))]) (fun a=>a.2.1)
  (fun a=>a.1<=l.length/\WK a.2.1 w p th a.2.2.1 a.2.2.2.1 a.2.2.2.2.1 (X.map Sp.row) (a.2.2.2.2.2.1.map fun x=>[V.str x]) (a.2.2.2.2.2.2.map fun x=>[V.str x])/\FW w σ a.2.1/\a.2.2.2.2.2.1.length+Sp.szs (l.drop a.1)<=S.length+Sp.szs l/\a.2.2.2.2.2.2.length+Sp.szs (l.drop a.1)<=T.length+Sp.szs l) ?_ (0,σ,uA,uS,uT,S,T) ⟨Av _,h,Ael _ _,by simp,by simp⟩
 clear h uA uS uT;rintro⟨i,s,vA,vS,vT,S1,T1⟩ ⟨hi,h1,f1,qW,qX⟩ ih;simp only at hi h1 f1 qW qX ih;refine Az Bmc ?_;rcases Bb i l.length with h' | h'
 .obtain⟨x,hx,hd,hm⟩:=Bl h';rw[hd,Sp.szs]at qW qX;have jO:=Nk x;have qZ:=J5 (f:=Sp.row) hm;have qy:=Hg x;obtain⟨jR,jS⟩:=IH x hm;have h2:WK (s++[.row x.row 104 0 0]) w p th vA vS vT (X.map Sp.row) (S1.map fun x=>[V.str x]) (T1.map fun x=>[V.str x]):=Akf h1 _ (Jj h1.cl qy);have f2:FW w s (s++[.row x.row 104 0 0]):=Aem _ (Ti h1);obtain⟨_,s2,q1,e,rfl,wS,wT,S2,T2,h3,f3,bS,bT⟩:=Bhu h2 hp AA AA AA x AA
  have qi:∀ {s':St} {w1 w2 w3:V} {A B C:List (List V)},WK s' w p th w1 w2 w3 A B C->FW w s s'->s.length ∉ fp s w:=fun _ _ hm=>by
   rw[Tj h1]at hm;simp only[Bo,Ch]at hm;rcases hm with hm | hm | hm | hm
   .have:=Ti h1;omega
   .have:=Cv h1.a _ hm;omega
   .have:=Cv h1.s _ hm;omega
   .have:=Cv h1.t _ hm;omega
  have jx:s.length ∉ fp (s++[.row x.row 104 0 0]) w:=fun hm=>by
   rw[Tj h2,<-Tj h1]at hm;exact qi h1 (Ael _ _) hm
  have k2:s2[s.length]?=some (.row x.row 104 0 0):=by
   rw[f3.2.1 _ AE jx];simp
  have qN:s.length ∉ fp s2 w:=fun hm=>by
   rcases f3.2.2 _ hm with h4 | h4
   .exact jx h4
   .simp at h4;omega
  have l3:=Aas h3.a;rw[Aj]at l3;have r3:=h3.row;have qe:=Fq x;have qC:=F4 f1 (F4 f2 f3);rw[qe]at q1 qy;have kh:=k2;rw[qe]at k2;simp only[go_sem,n1,Ar h',Ai,hx,qe];refine B8 q1 ?_;have e7:IntKind.i64.wrap ((X.length:Int)+1)=((X.length+1:Nat):Int):=by rw[B7 AA];rfl
  by_cases c6:X.length=6
  .have f6:((6:Int)<((X.length+1:Nat):Int))=True:=eq_true AA;simp only[go_sem,r3,l3,e7,gt_iff_lt,f6,bne,Int.reduceBEq,Bd];refine Ad AD ?_;simp only[go_sem,k2];exact⟨_,rfl,⟨rfl,rfl⟩,⟨qC.1,h3.cl⟩,_,_,rfl,_,_,_,S2,T2,h3,qC,by omega,by omega⟩
  have f6:((6:Int)<((X.length+1:Nat):Int))=False:=eq_false AA;by_cases e0:e=0;rotate_left
  .have y0:(e==0)=false:=by simp[e0]
   simp only[go_sem,r3,l3,e7,gt_iff_lt,f6,bne,y0,Bd];refine Ad AD ?_;simp only[go_sem,k2];exact⟨_,rfl,⟨rfl,rfl⟩,⟨qC.1,h3.cl⟩,_,_,rfl,_,_,_,S2,T2,h3,qC,by omega,by omega⟩
  subst e0;obtain⟨u',s3,j,g,Y,ha,qb,hu,jV,qA,r4,qs,h4,f4,jv⟩:=Bo1 h3 x AA;obtain⟨qh,qg⟩:=Pp qb;have k3:s3[s.length]?=_:=(jv s.length (Al.1 k2).1 qN).1.trans k2;rw[qe]at qA;simp only[F9]at qA qs;have ji:=Axe qA;have qr:∀ W',Abe (s3.set w W')[j]? (s3.set w W') 11 j g (X.length*11) (.agg x.row)=some (.und,(s3.set w W').set j Y):=fun W'=>Axe (qs W').1
  rw[qe]at qr;subst hu
  have qG:Mb 11 (.sl j g 0 (X.length+1) 11 true) (iV (X.length:Int))=some (.ptr j g (X.length*11)):=by
   have:=Ayu (m:=11) (j:=j) (g:=g) (off:=0) (w:=true) (k:=.i64) (show X.length<X.length+1 by omega);rw[F9]at this;exact this
  simp only[go_sem,r3,l3,e7,gt_iff_lt,f6,bne,Int.reduceBEq,Ba];refine Bhq 9 12 [0,1,2,3,4,5,6,7,8,9,10,11,12] [0,1,2,3,4,5,6,7,10,11,12,8,9] [[],[0],[1],[2],[],[3],[],[0,1,2,3,4,5,6],[0,1,2,3,4,5,6,7],[0,1,2,3,4,5,6,7,8],[0,1,2,3,4,5,6,7],[0,1,2,3,4,5,6,7,10],[0,1,2,3,4,5,6,7,11,9]] [[],[0],[1],[2],[],[3],[],[0,1,2,3,4,5,6],[0,1,2,3,4,5,6,7],[0,1,2,3,4,5,6,7,8],[0,1,2,3,4,5,6,7,9],[0,1,2,3,4,5,6,7],[0,1,2,3,4,5,6,7,11,10]] (E:=?E) (S:=?S) AD ?h1 ?h2 ?h3
  case h1=>
   simp only[Dy,Lo,Rx,Pc,Tw,Bg,Dq,Nat.reduceAdd];simp only[go_sem,r3,l3,k2,ha];refine Be ?_;simp only[go_sem,ha];refine Be ?_;simp only[go_sem,qG,ji];refine Be ?_;simp only[go_sem,r4];refine Be ?_;simp only[go_sem];exact Bni
  case h2=>
   simp only[Dy,Lo,Rx,Pc,Tw,Bg,Dq,Nat.reduceAdd];simp only[go_sem,r3,l3,k2,ha];refine Be ?_;simp only[go_sem,ha];refine Be ?_;simp only[go_sem,jV];refine Be ?_;simp only[go_sem,qG,qr];refine Be ?_;simp only[go_sem];exact Bnj rfl (qs _).2
  case h3=>
   have jN:s.length≠w:=fun e=>qN (by unfold fp;rw[e];exact Cr)
   have k4:((s3.set j Y).set w (.row [SL p.dz p.dt (p.decls.map Dp.row),SL p.tz p.tt (p.thrs.map Tp.row),iV th,.sl j g 0 (X.length+1) 11 true,wS,wT] 147 0 0))[s.length]?=some (sO x.op x.line x.nm x.arg x.iz x.it x.idx x.ex.op x.ex.n x.ex.nm x.ex.z x.ex.t x.ex.l x.bz x.bt x.body x.ez x.et x.els):=by rw[Bk (Ne.symm jN)];exact(jv s.length (Al.1 k2).1 qN).2.trans k2
   have jT:=(As2 f4 (Al.1 k2).1 qN).2;obtain⟨_,s5,q5,e5,ki,rfl,xA,xS,xT,S5,T5,h5,f5,jZ,ka⟩:=jR _ w th _ _ _ (X++[x]) S2 T2 x.bz x.bt h4 AJ AA AA;have jo:=F4 qC (F4 f4 f5);obtain⟨k5,kk⟩:=A77 f5 k4 jT;simp only[go_sem,k4];refine B8 q5 ?_;cases y5:(e5==0)
   .obtain⟨u6,qM,jb,h7,f7⟩:=Azz h5;obtain⟨qp,qo⟩:=Pp jb;have r6:=h5.row;have l6:=Aas h5.a;rw[Aj,Aq,Hi]at l6;have e8:IntKind.i64.wrap (((X.length+1:Nat):Int) - 1)=(X.length:Int):=by rw[B7 AA];omega
    have g7:=F4 jo f7;simp only[go_sem,y5];refine Ad AD ?_;simp only[go_sem,r6,l6,e8,qM,qp,qo];refine Be ?_;simp only[go_sem,bne,y5,Bd,Ba,Ay (show i<9223372036854775807 by omega)];exact⟨_,rfl,⟨rfl,rfl⟩,⟨g7.1,h7.cl⟩,_,_,rfl,_,_,_,S5,T5,h7,g7,by omega,by omega⟩
   .obtain⟨_,s9,q9,e9,kj,rfl,zA,zS,zT,S9,T9,h9,f9,kb,kc⟩:=jS _ w th _ _ _ (X++[x]) S5 T5 x.ez x.et h5 AJ AA AA;have jF:=F4 jo f9;obtain⟨u6,qM,jb,h7,f7⟩:=Azz h9;obtain⟨qp,qo⟩:=Pp jb;have r6:=h9.row;have l6:=Aas h9.a;rw[Aj,Aq,Hi]at l6;have e8:IntKind.i64.wrap (((X.length+1:Nat):Int) - 1)=(X.length:Int):=by rw[B7 AA];omega
    have g7:=F4 jF f7;simp only[go_sem,y5,k5];refine B8 q9 ?_;simp only[go_sem];cases y9:(e9==0)
    .refine Ad AD ?_;simp only[go_sem,r6,l6,e8,qM,qp,qo];refine Be ?_;simp only[go_sem,bne,y9,Bd,Ba,Ay (show i<9223372036854775807 by omega)];exact⟨_,rfl,⟨rfl,rfl⟩,⟨g7.1,h7.cl⟩,_,_,rfl,_,_,_,S9,T9,h7,g7,by omega,by omega⟩
    .refine Ad AD ?_;simp only[go_sem,r6,l6,e8,qM,qp,qo];refine Be ?_;simp only[go_sem,bne,y9,Bd,Ba,Ay (show i<9223372036854775807 by omega)];exact Am (ih (i+1,_,u6,zS,zT,S9,T9) AH ⟨h',h7,g7,by simp only;omega,by simp only;omega⟩) rfl
 .simp only[go_sem,n1,Bi h'];rw[Dt h',Sp.szs]at qW qX;exact⟨_,rfl,⟨rfl,rfl⟩,⟨f1.1,h1.cl⟩,_,_,rfl,_,_,_,S1,T1,h1,f1,by omega,by omega⟩
def Yf(v:V):Prop:=∃ e ln:Int,v=.tup [iV e,iV ln]
set_option maxHeartbeats 4000000 in
def A4i(z:Bool)(t:Nat)(l:List Dp)(hl:l.length<=1000000000):∃ v,Fn TT PT 76 [SL z t (l.map Dp.row)] v/\Yf v:=by
 have n1:(l.map Dp.row).length=l.length:=Aj ..;refine Oy T76 rfl ?_;simp only[go_sem];refine Bh (α:=Nat × St × Int × Int × Int × Int) (fun a=>l.length - a.1) (fun a=>[(0,SL z t (l.map Dp.row)),(4,iV a.2.2.1),(5,iV a.2.2.2.1),(6,iV a.2.2.2.2.1),(7,iV a.2.2.2.2.2),(8,iV (a.1:Int))]) (fun a=>a.2.1) (fun a=>a.1<=l.length) ?_ (0,[],0,0,0,0) (Av _);rintro⟨i,s,c4,c5,c6,c7⟩ hi ih;simp only at hi ih;refine Az Bl7 ?_;have qa:∀ (s:St) (e ln:Int),∃ v,some (V.tup [iV e,iV ln])=some v/\(Cb v=true/\v.refs=[]/\D8 [] v=some v)/\Yf v:=fun _ e ln=>⟨_,rfl,⟨rfl,rfl,rfl⟩,e,ln,rfl⟩
 rcases Bb i l.length with h' | h';rotate_left
 .simp only[go_sem,n1,Bi h'];exact qa [] _ _
 obtain⟨x,hx,-,-⟩:=Bl h';have qe:x.row=[iV x.kind,iV x.line,.str x.nm,iV x.size,iV x.init,.str x.on]:=rfl;obtain⟨z2,t2,qf⟩:=Wi z t 6 (l.map Dp.row) .i64 i AA;rw[<-R3]at qf;have hd:=Xj z2 t2 (l.take i) x.nm (by rw[D5];omega);have ho:=Xj z2 t2 (l.take i) x.on (by rw[D5];omega);simp only[go_sem,n1,Ar h',Ai,hx,qe];refine Ad AD ?_;simp only[go_sem,qf];refine Ax hd AB ?_;by_cases g1:0<=By (fun d:Dp=>d.nm==x.nm) (l.take i)
 .have f1:(0<=By (fun d:Dp=>d.nm==x.nm) (l.take i))=True:=eq_true g1;simp only[go_sem,f1,ge_iff_le];refine Ad AD ?_;simp only[go_sem];exact qa [] _ _
 have f1:(0<=By (fun d:Dp=>d.nm==x.nm) (l.take i))=False:=eq_false g1;by_cases g2:4<x.size
 .have f2:((4:Int)<x.size)=True:=eq_true g2;simp only[go_sem,f1,ge_iff_le,gt_iff_lt,f2];refine Ad AD ?_;simp only[go_sem];exact qa [] _ _
 have f2:((4:Int)<x.size)=False:=eq_false g2;by_cases h1:x.kind=1
 .have q1:(x.kind==1)=true:=by simp[h1]
  have q2:(x.kind==2)=false:=by simp[h1]
  have q3:(x.kind==3)=false:=by simp[h1]
  have q4:(x.kind==4)=false:=by simp[h1]
  have q5:(x.kind==5)=false:=by simp[h1]
  by_cases u4:12<(IntKind.i64.wrap (c4+max x.size 1))
  .have t4:((12:Int)<(IntKind.i64.wrap (c4+max x.size 1)))=True:=eq_true u4;simp only[go_sem,f1,ge_iff_le,gt_iff_lt,f2,q1,q2,q3,q4,q5,t4];refine Ad AD ?_;simp only[go_sem];exact qa [] _ _
  have t4:((12:Int)<(IntKind.i64.wrap (c4+max x.size 1)))=False:=eq_false u4;by_cases u5:4<c5
  .have t5:((4:Int)<c5)=True:=eq_true u5;simp only[go_sem,f1,ge_iff_le,gt_iff_lt,f2,q1,q2,q3,q4,q5,t4,t5];refine Ad AD ?_;simp only[go_sem];exact qa [] _ _
  have t5:((4:Int)<c5)=False:=eq_false u5;by_cases u6:2<c6
  .have t6:((2:Int)<c6)=True:=eq_true u6;simp only[go_sem,f1,ge_iff_le,gt_iff_lt,f2,q1,q2,q3,q4,q5,t4,t5,t6];refine Ad AD ?_;simp only[go_sem];exact qa [] _ _
  have t6:((2:Int)<c6)=False:=eq_false u6;by_cases u7:2<c7
  .have t7:((2:Int)<c7)=True:=eq_true u7;simp only[go_sem,f1,ge_iff_le,gt_iff_lt,f2,q1,q2,q3,q4,q5,t4,t5,t6,t7];refine Ad AD ?_;simp only[go_sem];exact qa [] _ _
  have t7:((2:Int)<c7)=False:=eq_false u7;simp only[go_sem,f1,ge_iff_le,gt_iff_lt,f2,q1,q2,q3,q4,q5,t4,t5,t6,t7,Ay (show i<9223372036854775807 by omega)];exact Am (ih (i+1,_,(IntKind.i64.wrap (c4+max x.size 1)),c5,c6,c7) AH h') rfl
 by_cases h2:x.kind=2
 .have q1:(x.kind==1)=false:=by simp[h2]
  have q2:(x.kind==2)=true:=by simp[h2]
  have q3:(x.kind==3)=false:=by simp[h2]
  have q4:(x.kind==4)=false:=by simp[h2]
  have q5:(x.kind==5)=false:=by simp[h2]
  by_cases u4:12<(IntKind.i64.wrap (c4+max x.size 1))
  .have t4:((12:Int)<(IntKind.i64.wrap (c4+max x.size 1)))=True:=eq_true u4;simp only[go_sem,f1,ge_iff_le,gt_iff_lt,f2,q1,q2,q3,q4,q5,t4];refine Ad AD ?_;simp only[go_sem];exact qa [] _ _
  have t4:((12:Int)<(IntKind.i64.wrap (c4+max x.size 1)))=False:=eq_false u4;by_cases u5:4<c5
  .have t5:((4:Int)<c5)=True:=eq_true u5;simp only[go_sem,f1,ge_iff_le,gt_iff_lt,f2,q1,q2,q3,q4,q5,t4,t5];refine Ad AD ?_;simp only[go_sem];exact qa [] _ _
  have t5:((4:Int)<c5)=False:=eq_false u5;by_cases u6:2<c6
  .have t6:((2:Int)<c6)=True:=eq_true u6;simp only[go_sem,f1,ge_iff_le,gt_iff_lt,f2,q1,q2,q3,q4,q5,t4,t5,t6];refine Ad AD ?_;simp only[go_sem];exact qa [] _ _
  have t6:((2:Int)<c6)=False:=eq_false u6;by_cases u7:2<c7
  .have t7:((2:Int)<c7)=True:=eq_true u7;simp only[go_sem,f1,ge_iff_le,gt_iff_lt,f2,q1,q2,q3,q4,q5,t4,t5,t6,t7];refine Ad AD ?_;simp only[go_sem];exact qa [] _ _
  have t7:((2:Int)<c7)=False:=eq_false u7;simp only[go_sem,f1,ge_iff_le,gt_iff_lt,f2,q1,q2,q3,q4,q5,t4,t5,t6,t7,Ay (show i<9223372036854775807 by omega)];exact Am (ih (i+1,_,(IntKind.i64.wrap (c4+max x.size 1)),c5,c6,c7) AH h') rfl
 by_cases h3:x.kind=3
 .have q1:(x.kind==1)=false:=by simp[h3]
  have q2:(x.kind==2)=false:=by simp[h3]
  have q3:(x.kind==3)=true:=by simp[h3]
  have q4:(x.kind==4)=false:=by simp[h3]
  have q5:(x.kind==5)=false:=by simp[h3]
  by_cases u4:12<c4
  .have t4:((12:Int)<c4)=True:=eq_true u4;simp only[go_sem,f1,ge_iff_le,gt_iff_lt,f2,q1,q2,q3,q4,q5,t4];refine Ad AD ?_;simp only[go_sem];exact qa [] _ _
  have t4:((12:Int)<c4)=False:=eq_false u4;by_cases u5:4<(IntKind.i64.wrap (c5+1))
  .have t5:((4:Int)<(IntKind.i64.wrap (c5+1)))=True:=eq_true u5;simp only[go_sem,f1,ge_iff_le,gt_iff_lt,f2,q1,q2,q3,q4,q5,t4,t5];refine Ad AD ?_;simp only[go_sem];exact qa [] _ _
  have t5:((4:Int)<(IntKind.i64.wrap (c5+1)))=False:=eq_false u5;by_cases u6:2<c6
  .have t6:((2:Int)<c6)=True:=eq_true u6;simp only[go_sem,f1,ge_iff_le,gt_iff_lt,f2,q1,q2,q3,q4,q5,t4,t5,t6];refine Ad AD ?_;simp only[go_sem];exact qa [] _ _
  have t6:((2:Int)<c6)=False:=eq_false u6;by_cases u7:2<c7
  .have t7:((2:Int)<c7)=True:=eq_true u7;simp only[go_sem,f1,ge_iff_le,gt_iff_lt,f2,q1,q2,q3,q4,q5,t4,t5,t6,t7];refine Ad AD ?_;simp only[go_sem];exact qa [] _ _
  have t7:((2:Int)<c7)=False:=eq_false u7;simp only[go_sem,f1,ge_iff_le,gt_iff_lt,f2,q1,q2,q3,q4,q5,t4,t5,t6,t7,Ay (show i<9223372036854775807 by omega)];exact Am (ih (i+1,_,c4,(IntKind.i64.wrap (c5+1)),c6,c7) AH h') rfl
 by_cases h4:x.kind=4
 .have q1:(x.kind==1)=false:=by simp[h4]
  have q2:(x.kind==2)=false:=by simp[h4]
  have q3:(x.kind==3)=false:=by simp[h4]
  have q4:(x.kind==4)=true:=by simp[h4]
  have q5:(x.kind==5)=false:=by simp[h4]
  by_cases u4:12<c4
  .have t4:((12:Int)<c4)=True:=eq_true u4;simp only[go_sem,f1,ge_iff_le,gt_iff_lt,f2,q1,q2,q3,q4,q5,t4];refine Ad AD ?_;simp only[go_sem];exact qa [] _ _
  have t4:((12:Int)<c4)=False:=eq_false u4;by_cases u5:4<(IntKind.i64.wrap (c5+1))
  .have t5:((4:Int)<(IntKind.i64.wrap (c5+1)))=True:=eq_true u5;simp only[go_sem,f1,ge_iff_le,gt_iff_lt,f2,q1,q2,q3,q4,q5,t4,t5];refine Ad AD ?_;simp only[go_sem];exact qa [] _ _
  have t5:((4:Int)<(IntKind.i64.wrap (c5+1)))=False:=eq_false u5;by_cases u6:2<c6
  .have t6:((2:Int)<c6)=True:=eq_true u6;simp only[go_sem,f1,ge_iff_le,gt_iff_lt,f2,q1,q2,q3,q4,q5,t4,t5,t6];refine Ad AD ?_;simp only[go_sem];exact qa [] _ _
  have t6:((2:Int)<c6)=False:=eq_false u6;by_cases u7:2<c7
  .have t7:((2:Int)<c7)=True:=eq_true u7;simp only[go_sem,f1,ge_iff_le,gt_iff_lt,f2,q1,q2,q3,q4,q5,t4,t5,t6,t7];refine Ad AD ?_;simp only[go_sem];exact qa [] _ _
  have t7:((2:Int)<c7)=False:=eq_false u7;simp only[go_sem,f1,ge_iff_le,gt_iff_lt,f2,q1,q2,q3,q4,q5,t4,t5,t6,t7,Ay (show i<9223372036854775807 by omega)];exact Am (ih (i+1,_,c4,(IntKind.i64.wrap (c5+1)),c6,c7) AH h') rfl
 by_cases h5:x.kind=5
 .have q1:(x.kind==1)=false:=by simp[h5]
  have q2:(x.kind==2)=false:=by simp[h5]
  have q3:(x.kind==3)=false:=by simp[h5]
  have q4:(x.kind==4)=false:=by simp[h5]
  have q5:(x.kind==5)=true:=by simp[h5]
  by_cases u4:12<c4
  .have t4:((12:Int)<c4)=True:=eq_true u4;simp only[go_sem,f1,ge_iff_le,gt_iff_lt,f2,q1,q2,q3,q4,q5,t4];refine Ad AD ?_;simp only[go_sem];exact qa [] _ _
  have t4:((12:Int)<c4)=False:=eq_false u4;by_cases u5:4<c5
  .have t5:((4:Int)<c5)=True:=eq_true u5;simp only[go_sem,f1,ge_iff_le,gt_iff_lt,f2,q1,q2,q3,q4,q5,t4,t5];refine Ad AD ?_;simp only[go_sem];exact qa [] _ _
  have t5:((4:Int)<c5)=False:=eq_false u5;by_cases u6:2<(IntKind.i64.wrap (c6+1))
  .have t6:((2:Int)<(IntKind.i64.wrap (c6+1)))=True:=eq_true u6;simp only[go_sem,f1,ge_iff_le,gt_iff_lt,f2,q1,q2,q3,q4,q5,t4,t5,t6];refine Ad AD ?_;simp only[go_sem];exact qa [] _ _
  have t6:((2:Int)<(IntKind.i64.wrap (c6+1)))=False:=eq_false u6;by_cases u7:2<c7
  .have t7:((2:Int)<c7)=True:=eq_true u7;simp only[go_sem,f1,ge_iff_le,gt_iff_lt,f2,q1,q2,q3,q4,q5,t4,t5,t6,t7];refine Ad AD ?_;simp only[go_sem];exact qa [] _ _
  have t7:((2:Int)<c7)=False:=eq_false u7;simp only[go_sem,f1,ge_iff_le,gt_iff_lt,f2,q1,q2,q3,q4,q5,t4,t5,t6,t7,Ay (show i<9223372036854775807 by omega)];refine Ad AD ?_;simp only[go_sem,qf];refine Ax ho AB ?_;by_cases g3:0<=By (fun d:Dp=>d.nm==x.on) (l.take i)
  .have g4:=(Aen (fun d:Dp=>d.nm==x.on) (l.take i)).2;obtain⟨k,hk⟩:∃ k:Nat,By (fun d:Dp=>d.nm==x.on) (l.take i)=k:=⟨_,(Ab5 g3).symm⟩;rw[hk,D5]at g4;obtain⟨y,hy,-,-⟩:=Bl (l:=l) (i:=k) AA;have jw:y.row=[iV y.kind,iV y.line,.str y.nm,iV y.size,iV y.init,.str y.on]:=rfl;have f3:((k:Int)<0)=False:=eq_false AA;rw[hk];cases q3b:(y.kind==3)
   .simp only[go_sem,f3,Ai,hy,jw,q3b,bne,Bd];refine Ad AD ?_;simp only[go_sem];exact qa [] _ _
   .simp only[go_sem,f3,Ai,hy,jw,q3b,bne,Ba,Ay (show i<9223372036854775807 by omega)];exact Am (ih (i+1,_,c4,c5,(IntKind.i64.wrap (c6+1)),c7) AH h') rfl
  .rw[Axc g3];simp only[go_sem,Int.reduceLT,Int.reduceNeg];refine Ad AD ?_;simp only[go_sem];exact qa [] _ _
 have q1:(x.kind==1)=false:=by simp[h1]
 have q2:(x.kind==2)=false:=by simp[h2]
 have q3:(x.kind==3)=false:=by simp[h3]
 have q4:(x.kind==4)=false:=by simp[h4]
 have q5:(x.kind==5)=false:=by simp[h5]
 by_cases u4:12<c4
 .have t4:((12:Int)<c4)=True:=eq_true u4;simp only[go_sem,f1,ge_iff_le,gt_iff_lt,f2,q1,q2,q3,q4,q5,t4];refine Ad AD ?_;simp only[go_sem];exact qa [] _ _
 have t4:((12:Int)<c4)=False:=eq_false u4;by_cases u5:4<c5
 .have t5:((4:Int)<c5)=True:=eq_true u5;simp only[go_sem,f1,ge_iff_le,gt_iff_lt,f2,q1,q2,q3,q4,q5,t4,t5];refine Ad AD ?_;simp only[go_sem];exact qa [] _ _
 have t5:((4:Int)<c5)=False:=eq_false u5;by_cases u6:2<c6
 .have t6:((2:Int)<c6)=True:=eq_true u6;simp only[go_sem,f1,ge_iff_le,gt_iff_lt,f2,q1,q2,q3,q4,q5,t4,t5,t6];refine Ad AD ?_;simp only[go_sem];exact qa [] _ _
 have t6:((2:Int)<c6)=False:=eq_false u6;by_cases u7:2<(IntKind.i64.wrap (c7+1))
 .have t7:((2:Int)<(IntKind.i64.wrap (c7+1)))=True:=eq_true u7;simp only[go_sem,f1,ge_iff_le,gt_iff_lt,f2,q1,q2,q3,q4,q5,t4,t5,t6,t7];refine Ad AD ?_;simp only[go_sem];exact qa [] _ _
 have t7:((2:Int)<(IntKind.i64.wrap (c7+1)))=False:=eq_false u7;simp only[go_sem,f1,ge_iff_le,gt_iff_lt,f2,q1,q2,q3,q4,q5,t4,t5,t6,t7,Ay (show i<9223372036854775807 by omega)];exact Am (ih (i+1,_,c4,c5,c6,(IntKind.i64.wrap (c7+1))) AH h') rfl
set_option maxHeartbeats 4000000 in
def A1b{p:Gp}(hp:LnG p):∃ v,Fn TT PT 77 [.agg p.row] v/\Yf v:=by
 obtain⟨dz,dt,decls,tz,tt,thrs⟩:=p;obtain⟨h1,h2,h3⟩:=hp;simp only at h1 h2 h3 ⊢;unfold Gp.row;simp only;have n1:(decls.map Dp.row).length=decls.length:=Aj ..;have n2:(thrs.map Tp.row).length=thrs.length:=Aj ..;refine Oy T77 rfl ?_;have qa:∀ (s:St) (e ln:Int),∃ v,some (V.tup [iV e,iV ln])=some v/\(Cb v=true/\v.refs=[]/\D8 [] v=some v)/\Yf v:=fun _ e ln=>⟨_,rfl,⟨rfl,rfl,rfl⟩,e,ln,rfl⟩
 simp only[go_sem];refine Bh (α:=Nat × St) (fun a=>thrs.length - a.1) (fun a=>[(1,.ptr 0 0 0),(4,iV (a.1:Int))]) (fun a=>a.2) (fun a=>a.1<=thrs.length/\a.2[0]?=some (.row [SL dz dt (decls.map Dp.row),SL tz tt (thrs.map Tp.row)] 29 0 0)) ?_ (0,_) ⟨Av _,rfl⟩;rintro⟨i,s⟩ ⟨hi,hs⟩ ih;simp only at hi hs ih;refine Az Bl8 ?_;rcases Bb i thrs.length with h' | h'
 .obtain⟨x,hx,-,-⟩:=Bl h';have qe:x.row=(tR x):=rfl;obtain⟨s',qj⟩:∃ s',s'=s++[tO x]:=⟨_,rfl⟩;have k1:s'[s.length]?=some (tO x):=by rw[qj,Fd (An _),Hl];rfl
  have k0:s'[0]?=some (.row [SL dz dt (decls.map Dp.row),SL tz tt (thrs.map Tp.row)] 29 0 0):=by rw[qj];exact Bs hs
  have hd:=Xj dz dt decls x.nm AA;obtain⟨z2,t2,qf⟩:=Wi tz tt 4 (thrs.map Tp.row) .i64 i AA;rw[<-R3]at qf;have ht:=Afj z2 t2 (thrs.take i) x.nm (by rw[D5];omega);simp only[go_sem,hs,n2,Ar h',Ai,hx,qe];rw[<-qj];refine Ad AD ?_;simp only[go_sem,k0,k1];refine Ax hd AB ?_;by_cases g1:0<=By (fun d:Dp=>d.nm==x.nm) decls
  .have f1:(0<=By (fun d:Dp=>d.nm==x.nm) decls)=True:=eq_true g1;simp only[go_sem,f1,ge_iff_le];refine Ad AD ?_;simp only[go_sem,k1];exact qa [] _ _
  have f1:(0<=By (fun d:Dp=>d.nm==x.nm) decls)=False:=eq_false g1;simp only[go_sem,f1,ge_iff_le,k0,k1,qf];refine Ax ht AB ?_;by_cases g2:0<=By (fun d:Tp=>d.nm==x.nm) (thrs.take i)
  .have f2:(0<=By (fun d:Tp=>d.nm==x.nm) (thrs.take i))=True:=eq_true g2;simp only[go_sem,f2,ge_iff_le];refine Ad AD ?_;simp only[go_sem,k1];exact qa [] _ _
  have f2:(0<=By (fun d:Tp=>d.nm==x.nm) (thrs.take i))=False:=eq_false g2;simp only[go_sem,f2,ge_iff_le,Ay (show i<9223372036854775807 by omega)];exact Am (ih (i+1,s') AH ⟨h',k0⟩) rfl
 simp only[go_sem,hs,n2,Bi h'];clear ih;refine Bh (α:=Nat × St) (fun a=>thrs.length - a.1) (fun a=>[(1,.ptr 0 0 0),(6,iV (a.1:Int))]) (fun a=>a.2) (fun a=>a.1<=thrs.length/\a.2[0]?=some (.row [SL dz dt (decls.map Dp.row),SL tz tt (thrs.map Tp.row)] 29 0 0)) ?_ (0,s) ⟨Av _,hs⟩;clear hs hi h' i s;rintro⟨i,s⟩ ⟨hi,hs⟩ ih;simp only at hi hs ih;refine Az Bma ?_;rcases Bb i thrs.length with h' | h';rotate_left
 .simp only[go_sem,hs,n2,Bi h'];exact qa [] _ _
 obtain⟨x,hx,-,hm⟩:=Bl h';have jK:=h3 x hm;have n3:(x.locals.map fun s=>[V.str s]).length=x.locals.length:=Aj ..;have qe:x.row=(tR x):=rfl;obtain⟨s',qj⟩:∃ s',s'=s++[tO x]:=⟨_,rfl⟩;have k1:s'[s.length]?=some (tO x):=by rw[qj,Fd (An _),Hl];rfl
 have k0:s'[0]?=some (.row [SL dz dt (decls.map Dp.row),SL tz tt (thrs.map Tp.row)] 29 0 0):=by rw[qj];exact Bs hs
 by_cases g4:4<x.locals.length
 .have f4:((4:Int)<(x.locals.length:Int))=True:=eq_true AA;simp only[go_sem,hs,n2,Ar h',Ai,hx,qe];rw[<-qj];simp only[go_sem,k1,n3,gt_iff_lt,f4];refine Ad AD ?_;simp only[go_sem,k1];exact qa [] _ _
 have f4:((4:Int)<(x.locals.length:Int))=False:=eq_false AA;simp only[go_sem,hs,n2,Ar h',Ai,hx,qe];rw[<-qj];simp only[go_sem,k1,n3,gt_iff_lt,f4];refine Bh (α:=Nat) (fun k=>x.locals.length - k) (fun k=>[(1,.ptr 0 0 0),(6,iV (i:Int)),(7,.ptr s.length 0 0),(8,iV (k:Int))]) (fun _=>s') (fun k=>k<=x.locals.length) ?_ 0 (Av _);rintro k hk jh;refine Az Bl9 ?_;rcases Bb k x.locals.length with g' | g';rotate_left
 .simp only[go_sem,k1,n3,Bi g',Ay (show i<9223372036854775807 by omega)];exact Am (ih (i+1,s') AH ⟨h',k0⟩) rfl
 obtain⟨y,hy,-,-⟩:=Bl g';have hd:=Xj dz dt decls y AA;have ht:=Afj tz tt thrs y AA;obtain⟨z2,t2,qf⟩:=Wi x.lz x.lt 1 (x.locals.map fun s=>[V.str s]) .i64 k AA;rw[<-R3]at qf;have ha:=Xi z2 t2 (x.locals.take k) y (by rw[D5];omega);simp only[go_sem,k1,k0,n3,Ar g',Ai,hy];refine Ab hd AB ?_;by_cases g1:0<=By (fun d:Dp=>d.nm==y) decls
 .have f1:(0<=By (fun d:Dp=>d.nm==y) decls)=True:=eq_true g1;simp only[go_sem,f1,ge_iff_le];refine Ad AD ?_;simp only[go_sem,k1];exact qa [] _ _
 have f1:(0<=By (fun d:Dp=>d.nm==y) decls)=False:=eq_false g1;simp only[go_sem,f1,ge_iff_le,k0,k1];refine Ab ht AB ?_;by_cases g2:0<=By (fun d:Tp=>d.nm==y) thrs
 .have f2:(0<=By (fun d:Tp=>d.nm==y) thrs)=True:=eq_true g2;simp only[go_sem,f2,ge_iff_le];refine Ad AD ?_;simp only[go_sem,k1];exact qa [] _ _
 have f2:(0<=By (fun d:Tp=>d.nm==y) thrs)=False:=eq_false g2;simp only[go_sem,f2,ge_iff_le,k1,qf];refine Ab ha AB ?_;by_cases g3:0<=By (·==y) (x.locals.take k)
 .have f3:(0<=By (·==y) (x.locals.take k))=True:=eq_true g3;simp only[go_sem,f3,ge_iff_le];refine Ad AD ?_;simp only[go_sem,k1];exact qa [] _ _
 have f3:(0<=By (·==y) (x.locals.take k))=False:=eq_false g3;simp only[go_sem,f3,ge_iff_le,Ay (show k<9223372036854775807 by omega)];exact Am (jh (k+1) AA g') rfl
def Alg{p:Gp}(hp:LnG p):∀ (N:Nat) (l:List Sp),Cz (l.map Sp.row)<=N->N<=1000000000->Agy p l
 | 0,l,h,hN=>As3 hp AA fun x hx=>by
  have h1:=J5 (f:=Sp.row) hx;have h2:=Nu x;omega
 | N+1,l,h,hN=>As3 hp AA fun x hx=>by
  have h1:=J5 (f:=Sp.row) hx;have h2:=Nu x;exact⟨Alg hp N x.body AA AA,Alg hp N x.els AA AA⟩
def N1(l:List Tp):Nat:=(l.map fun t=>Sp.szs t.body).sum
set_option maxHeartbeats 4000000 in
def A78{p:Gp}(hb:C5 p.row<=1000000000)(hp:LnG p)(hz:N1 p.thrs<=1000000):∃ v,Fn TT PT 43 [.agg p.row] v/\Yf v:=by
 have hs:=Bhn p hb;have kf:=Amj p;obtain⟨_,qd,ed,ld,rfl⟩:=A4i p.dz p.dt p.decls hp.d;obtain⟨_,qt,et,lt,rfl⟩:=A1b hp;have qJ:=Af9 p;have n2:(p.thrs.map Tp.row).length=p.thrs.length:=Aj ..;have ht:=hp.t;obtain⟨jP,jQ⟩:=Bcx qJ;rw[Vi]at hs qt qJ ⊢;have qa:∀ (s:St) (e ln:Int),∃ v,some (V.tup [iV e,iV ln])=some v/\(Cb v=true/\v.refs=[]/\D8 [] v=some v)/\Yf v:=fun _ e ln=>⟨_,rfl,⟨rfl,rfl,rfl⟩,e,ln,rfl⟩
 refine Oy T43 rfl ?_;cases hsh:shG p
 .rw[hsh]at hs;simp only[go_sem];refine Ab hs AB ?_;simp only[go_sem,Bd];exact qa [] _ _
 rw[hsh]at hs;simp only[go_sem];refine Ab hs AB ?_;simp only[go_sem,Ba];refine Ab qd AB ?_;cases y1:(ed==0)
 .simp only[go_sem,y1,bne,Bd];exact qa [] _ _
 by_cases g1:4<p.thrs.length
 .have f1:((4:Int)<(p.thrs.length:Int))=True:=eq_true AA;simp only[go_sem,y1,bne,Ba,n2,gt_iff_lt,f1];exact qa [] _ _
 have f1:((4:Int)<(p.thrs.length:Int))=False:=eq_false AA;simp only[go_sem,y1,bne,Ba,n2,gt_iff_lt,f1];refine Ab qt AB ?_;cases y2:(et==0)
 .simp only[go_sem,y2,bne,Bd];exact qa [] _ _
 simp only[go_sem,y2,bne,Ba];refine Bh (α:=Nat × Int) (fun a=>p.thrs.length - a.1) (fun a=>[(1,.ptr 0 0 0),(8,iV a.2),(9,iV (a.1:Int))]) (fun _=>[gO p]) (fun a=>a.1<=p.thrs.length) ?_ (0,0) (Av _);rintro⟨i,n⟩ hi ih;simp only at hi ih;refine Az Blq ?_;rcases Bb i p.thrs.length with h' | h'
 .obtain⟨x,hx,-,hm⟩:=Bl h';have qY:=J5 (f:=Tp.row) hm;rw[Aa9]at qY;have qe:x.row=(tR x):=rfl;obtain⟨_,qc,c,rfl⟩:=Ajf 1000000000 x.bz x.bt x.body AA (An _);simp only[go_sem,n2,Ar h',Ai,hx,qe];refine Ab qc AB ?_;simp only[go_sem,Ay (show i<9223372036854775807 by omega)];exact Am (ih (i+1,_) AH h') rfl
 clear ih;by_cases g2:60<n
 .have f2:((60:Int)<n)=True:=eq_true g2;simp only[go_sem,n2,Bi h',gt_iff_lt,f2];exact qa [] _ _
 have f2:((60:Int)<n)=False:=eq_false g2;simp only[go_sem,n2,Bi h',gt_iff_lt,f2,jP,jQ]
 have jl:WK [gO p,Fb p 0 .nils .nils .nils] 1 p 0 .nils .nils .nils (([]:List Sp).map Sp.row) (([]:List (List UInt8)).map fun x=>[V.str x]) (([]:List (List UInt8)).map fun x=>[V.str x]):=by
  refine⟨rfl,Aar,Aar,Aar,by simp[V.refs],by simp[V.refs],by simp[V.refs],?_⟩;intro ob hm j hj;simp only[Bo,Of,or_false]at hm;rcases hm with rfl | rfl
  .simp[Ob.refs,Ah,Om]at hj
  .simp[Ob.refs,Ah,Om,V.refs]at hj
 refine Bh (α:=Nat × St × Int × V × V × V × List (List UInt8) × List (List UInt8)) (fun a=>p.thrs.length - a.1) (fun a=>[(1,.ptr 0 0 0),(10,.ptr 1 0 0),(11,iV (a.1:Int))]) (fun a=>a.2.1)
  (fun a=>a.1<=p.thrs.length/\WK a.2.1 1 p a.2.2.1 a.2.2.2.1 a.2.2.2.2.1 a.2.2.2.2.2.1 (([]:List Sp).map Sp.row) (a.2.2.2.2.2.2.1.map fun x=>[V.str x]) (a.2.2.2.2.2.2.2.map fun x=>[V.str x])/\(a.2.1[0]?=some (gO p)/\0 ∉ fp a.2.1 1)/\a.2.2.2.2.2.2.1.length+N1 (p.thrs.drop a.1)<=1000000/\a.2.2.2.2.2.2.2.length+N1 (p.thrs.drop a.1)<=1000000) ?_ (0,_,0,_,_,_,[],[]) ⟨Av _,jl,⟨rfl,by rw[Tj jl];simp[V.refs]⟩,by simpa using hz,by simpa using hz⟩
 clear jl hi h' i g2 f2 n;rintro⟨i,s,th,uA,uS,uT,S,T⟩ ⟨hi,h1,⟨qx,jd⟩,hS,hT⟩ ih;simp only at hi h1 qx jd hS hT ih;refine Az Blr ?_;rcases Bb i p.thrs.length with h' | h';rotate_left
 .simp only[go_sem,qx,n2,Bi h'];exact qa [] _ _
 obtain⟨x,hx,hd,hm⟩:=Bl h';have qY:=J5 (f:=Tp.row) hm;rw[Aa9]at qY;have qe:x.row=(tR x):=rfl;have jO:N1 (p.thrs.drop i)=Sp.szs x.body+N1 (p.thrs.drop (i+1)):=by rw[hd];simp[N1]
 obtain⟨h2,f2⟩:=Aat (th':=(i:Int)) h1 (An _) (fun _ _ _ _ _=>rfl) h1.a h1.s h1.t (fun j hj=>.inl hj) (fun j hj=>.inl hj) (fun j hj=>.inl hj) (fun j hj=>(h1.ad j hj).2) (fun j hj=>(h1.sd j hj).2) h1.cl;obtain⟨_,s2,q,⟨e,ln,rfl,vA,vS,vT,S2,T2,h3,f3,bS,bT⟩⟩:=Alg hp 1000000000 x.body AA (An _) _ _ _ _ _ _ [] S T x.bz x.bt h2 AE AA AA;have hr:=h1.row;have jn:=F4 f2 f3;have l0:=(Al.1 qx).1;have k2:s2[0]?=_:=(jn.2.1 0 l0 jd).trans qx;have k1:(s.set 1 (Fb p (i:Int) uA uS uT))[0]?=some (gO p):=by rw[Bk AA];exact qx
 have jM:0 ∉ fp s2 1:=fun hm=>by
  rcases jn.2.2 0 hm with h4 | h4
  .exact jd h4
  .omega
 simp only[go_sem,qx,n2,Ar h',hr,k1,Ai,hx,qe];refine B8 q ?_;cases y3:(e==0)
 .simp only[go_sem,y3,bne,Bd];exact qa [] _ _
 simp only[go_sem,y3,bne,Ba,Ay (show i<9223372036854775807 by omega)];exact Am (ih (i+1,s2,_,vA,vS,vT,S2,T2) AH ⟨h',h3,⟨k2,jM⟩,by simp only;omega,by simp only;omega⟩) rfl
/-! end of the cases -/
/-! end of the cases -/
