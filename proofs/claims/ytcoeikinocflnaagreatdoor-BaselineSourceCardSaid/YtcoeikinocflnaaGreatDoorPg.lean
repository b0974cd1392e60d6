/- Walks: which values are baselines. -/
import Derived.Test.YtcoeikinocflnaaGreatDoorHx
set_option linter.all false
namespace Go.Proofs.YtcoeikinocflnaaGreatDoor.KM
open Go
attribute [go_sem] Aac A2 Int.natCast_nonneg
/-! interleaveref01 -/
def Abw(f:AF)(args:List V):Option V:=(H0 (Jz TT PT 60) f args []).bind fun p=>Dw p.2 p.1
theorem Am9:((List.range 256).all fun n=>match Abw af175 [.int .u8 n] with
  | some v=>v.eqv (.bool (I6 n))
  | none=>false)=true:=by kernel_rfl
theorem Ant(n:Nat)(h:n<256):Fn TT PT 175 [.int .u8 n] (.bool (I6 n)):=by
 have:=Bd.1 Am9 n (Fc.2 h)
 split at this
 ·rename_i v hv;have e:=Uu this;subst e;exact Mo Na T175 rfl rfl hv
 ·cases this
theorem Anu:((List.range 256).all fun n=>match Abw af177 [.int .u8 n] with
  | some v=>v.eqv (.bool (J0 n))
  | none=>false)=true:=by kernel_rfl
theorem Aqu(n:Nat)(h:n<256):Fn TT PT 177 [.int .u8 n] (.bool (J0 n)):=by
 have:=Bd.1 Anu n (Fc.2 h)
 split at this
 ·rename_i v hv;have e:=Uu this;subst e;exact Mo Na T177 rfl rfl hv
 ·cases this
def kwRows:List (List V):=kwL.map fun k=>[V.str k]
theorem Ana:Fn TT PT 211 [] (.lst 1 kwRows):=by
 have:(match Abw af211 [] with
  | some v=>v.eqv (.lst 1 kwRows)
  | none=>false)=true:=by kernel_rfl
 split at this
 ·rename_i v hv;have e:=Uu this;subst e;exact Mo Na T211 rfl rfl hv
 ·cases this
theorem Akj(l:List UInt8):Fn TT PT 176 [.str l] (.bool (F9 l)):=by
 have hlen:kwRows.length=22:=rfl
 have hget:∀ i,i<22->kwRows[i]?=some [.str (kwL.getD i [])]:=fun i hi=>by
  have hl:i<kwL.length:=hi;unfold kwRows;rw[Bb,A0 hl,Aq,A0 hl];rfl
 have hk:=Ana;generalize kwRows=g at hlen hget hk;refine Bn T176 rfl ?_;simp only[go_sem];refine Ad hk rfl ?_;simp only[go_sem];refine B9 (fun i=>22 - i) (fun i:Nat=>[(0,.str l),(3,.lst 1 g),(4,.int .i64 i)]) (fun _=>[]) (fun i=>i<=22/\∀ j,j<i->(l==kwL.getD j [])=false) ?_ 0 ⟨by omega,fun j hj=>by omega⟩;rintro i ⟨hi,hno⟩ ih;refine Ca (by delta lp176_0;exact rfl) ?_;rcases Bx i 22 with h | h
 ·have hlt:decide ((i:Int)<22)=true:=by simp;omega
  simp only[go_sem,hlen,hlt,hget i h];refine Alf (fun h3=>?_) (fun h3=>?_)
  ·simp only[go_sem];refine An rfl ?_;unfold F9;rw[Li.2 ⟨kwL.getD i [],?_,?_⟩]
   ·have hl:i<kwL.length:=h;rw[Aq,A0 hl];exact Fa hl
   ·rw[<-h3,Bool.beq_comm]
  ·simp only[go_sem,Bg (show i<9223372036854775807 by omega)];refine Bi (ih (i+1) (by omega) ⟨by omega,fun j hj=>?_⟩) rfl;by_cases e:j=i
   ·rw[e,<-h3,Bool.beq_comm]
   ·exact hno j (by omega)
 ·have hlt:decide ((i:Int)<22)=false:=by simp;omega
  simp only[go_sem,hlen,hlt];refine An rfl ?_
  symm
  congr 1;unfold F9;rw[<-Wd];intro ha;obtain⟨k,hk,he⟩:=Li.1 ha;obtain⟨j,hj,rfl⟩:=Ng hk;have hj2:j<22:=hj;have:=hno j (by omega);rw[Aq,A0 hj]at this;exact absurd he (by simpa using this)
theorem Abe{l:List UInt8}(h0:0<l.length):((I6 (l.getD 0 0).toNat=true)/\∀ j,j<l.length->J0 (l.getD j 0).toNat=true)↔∀ j,j<l.length->Lf l j=true:=by
 have inn:∀ n,J0 n=true↔I6 n=true\/(n=95\/Om n=true):=fun n=>by
  unfold J0;simp only[Hb,beq_iff_eq];constructor
  ·rintro(h | h | h)
   ·exact .inl h
   ·exact .inr (.inr h)
   ·exact .inr (.inl h)
  ·rintro(h | h | h)
   ·exact .inl h
   ·exact .inr (.inr h)
   ·exact .inr (.inl h)
 have nm:∀ j,Lf l j=true↔I6 (l.getD j 0).toNat=true\/(0<j/\((l.getD j 0).toNat=95\/Om (l.getD j 0).toNat=true)):=fun j=>by
  unfold Lf;simp only[Hb,Af,decide_eq_true_eq,beq_iff_eq]
 constructor
 ·rintro⟨h1,h2⟩ j hj;rw[nm];have:=(inn _).1 (h2 j hj);by_cases e:j=0
  ·subst e;exact .inl h1
  ·exact this.imp id fun h=>⟨by omega,h⟩
 ·intro h;refine⟨?_,fun j hj=>?_⟩
  ·have:=(nm 0).1 (h 0 h0);exact this.elim id fun h=>by omega
  ·have:=(nm j).1 (h j hj);exact(inn _).2 (this.imp id fun h=>h.2)
theorem O9(l:List UInt8):Fn TT PT 134 [.str l] (.bool (Bv l)):=by
 refine Bn T134 rfl ?_;cases h0:decide ((l.length:Int)<1);rotate_left
 ·simp only[go_sem,h0];exact An rfl (by rw[At3 (by simp at h0;omega)])
 have h0':0<l.length:=by simp at h0;omega
 cases h1:decide ((12:Int)<(l.length:Int));rotate_left
 ·simp only[go_sem,h0,h1];exact An rfl (by rw[At4 (by simp at h1;omega)])
 have hg:l[0]?=some (l.getD 0 0):=by rw[Aq,A0 h0'];rfl
 have hlet:=Ant (l.getD 0 0).toNat (l.getD 0 0).toNat_lt
 cases h2:I6 (l.getD 0 0).toNat
 ·rw[h2]at hlet;simp only[go_sem,h0,h1,hg];refine Ad hlet rfl ?_;simp only[go_sem];refine An rfl ?_;rw[show Bv l=false from ?_];have:=mt (Abe h0').2 (by rw[h2];simp);rw[<-Wd];intro hn;unfold Bv at hn;simp only[Af,Bd,Fc]at hn;exact this hn.2.2.2
 rw[h2]at hlet;cases h3:F9 l;rotate_left
 ·have hk:=Akj l;rw[h3]at hk;simp only[go_sem,h0,h1,hg];refine Ad hlet rfl ?_;simp only[go_sem];refine Ad hk rfl ?_;simp only[go_sem];exact An rfl (by rw[At5 h3])
 have hk:=Akj l;rw[h3]at hk;simp only[go_sem,h0,h1,hg];refine Ad hlet rfl ?_;simp only[go_sem];refine Ad hk rfl ?_;simp only[go_sem];refine B9 (fun i=>l.length - i) (fun i:Nat=>[(0,.str l),(3,.int .i64 i)]) (fun _=>[]) (fun i=>i<=l.length/\∀ j,j<i->J0 (l.getD j 0).toNat=true) ?_ 0 ⟨by omega,fun j hj=>by omega⟩;rintro i ⟨hi,hno⟩ ih;refine Ca (by delta lp134_0;exact rfl) ?_;have hle:l.length<=12:=by simp at h1;omega
 rcases Bx i l.length with h | h
 ·have hgi:l[i]?=some (l.getD i 0):=by rw[Aq,A0 h];rfl
  have hin:=Aqu (l.getD i 0).toNat (l.getD i 0).toNat_lt
  cases h4:J0 (l.getD i 0).toNat
  ·rw[h4]at hin;simp only[go_sem,B7 h,hgi];refine Ad hin rfl ?_;simp only[go_sem];refine An rfl ?_;rw[show Bv l=false from ?_];rw[<-Wd];intro hn;unfold Bv at hn;simp only[Af,Bd,Fc]at hn;have:=((Abe h0').2 hn.2.2.2).2 i h;rw[h4]at this;cases this
  ·rw[h4]at hin;simp only[go_sem,B7 h,hgi];refine Ad hin rfl ?_;simp only[go_sem,Bg (show i<9223372036854775807 by omega)];refine Bi (ih (i+1) (by omega) ⟨by omega,fun j hj=>?_⟩) rfl;by_cases e:j=i
   ·rw[e];exact h4
   ·exact hno j (by omega)
 ·simp only[go_sem,Cr h];refine An rfl ?_;rw[Aj9 (by omega) hle h3 ((Abe h0').1 ⟨h2,fun j hj=>hno j (by omega)⟩)]
/-! shapes -/
def shH(op n:Int)(nm:List UInt8)(k:Nat):Bool:=
 Su op==(k:Int)&&((op==2||op==3)==!(nm==[])&&((!(op==2||op==3)||Bv nm)&&(decide (0<=n)&&(op==1||n==0))))
mutual
def Fr:Xp->Bool
 | ⟨op,n,nm,_,_,l⟩=>shH op n nm l.length&&Zd l
def Zd:List Xp->Bool
 | []=>true
 | x::l=>Fr x&&Zd l
end
theorem Ahm:∀ l:List Xp,Zd l=l.all Fr
 | []=>rfl
 | x::l=>by rw[Zd,Ahm l];rfl
theorem Aue(x:Xp):Fr x=(shH x.op x.n x.nm x.l.length&&x.l.all Fr):=by
 rw[<-Ahm];cases x;rfl
def Ya(x:Xp):Bool:=x.op==0&&(x.n==0&&(x.nm==[]&&x.l.isEmpty))
def Aec(s:Sp):Bool:=
 decide (1<=s.op)&&(decide (s.op<=15)&&((if E5 s.op then s.nm==[] else Bv s.nm)&&((if s.op=15 then Bv s.arg else s.arg==[]) &&
  (decide (s.idx.length<=1)&&((s.op==1||s.idx.isEmpty)&&(s.idx.all Fr&&((if Dl s.op then Fr s.ex else Ya s.ex) &&
   ((Bq s.op||s.body.isEmpty)&&(s.op==2||s.els.isEmpty)))))))))
mutual
def Lg:Sp->Bool
 | ⟨op,line,nm,arg,iz,it,idx,ex,bz,bt,body,ez,et,els⟩=>Aec ⟨op,line,nm,arg,iz,it,idx,ex,bz,bt,body,ez,et,els⟩&&(H5 body&&H5 els)
def H5:List Sp->Bool
 | []=>true
 | x::l=>Lg x&&H5 l
end
theorem Ahn:∀ l:List Sp,H5 l=l.all Lg
 | []=>rfl
 | x::l=>by rw[H5,Ahn l];rfl
theorem Auf(s:Sp):Lg s=(Aec s&&(H5 s.body&&H5 s.els)):=by
 cases s;rfl
def P8(d:Dp):Bool:=
 decide (1<=d.kind)&&(decide (d.kind<=6)&&(Bv d.nm&&(decide (0<=d.size)&&((d.kind==1||d.size==0)&&((if d.kind=5 then Bv d.on else d.on==[]) &&
  (decide (-9223372036854775808<d.init)&&(d.init==0||(d.kind==1||d.kind==2))))))))
def Vq(t:Tp):Bool:=t.locals.all Bv&&(Bv t.nm&&H5 t.body)
def Zn(p:Gp):Bool:=p.decls.all P8&&(p.thrs.all Vq&&!p.thrs.isEmpty)
/-! what is in range -/
/-! bulk -/
theorem Xs(z:Bool)(t:Nat)(rows:List (List V)):(SL z t rows).bulk=Ck rows+1:=by
 unfold SL
 split
 ·rename_i h;rw[h.2];simp[V.bulk,Ck]
 ·simp[V.bulk]
theorem Fg(x:Xp):Ct x.row=4+x.nm.length+Ck (x.l.map Xp.row):=by
 rw[Ax];simp only[Ct,V.bulk,Xs];omega
theorem Ju(s:Sp):Ct s.row=7+s.nm.length+s.arg.length+Ck (s.idx.map Xp.row)+Ct s.ex.row+Ck (s.body.map Sp.row)+Ck (s.els.map Sp.row):=by
 rw[Np];simp only[Z3,Ct,V.bulk,Xs];omega
theorem A1o(d:Dp):Ct d.row=6+d.nm.length+d.on.length:=by
 simp only[Dp.row,Ct,V.bulk];omega
theorem Vb(t:Tp):Ct t.row=4+t.nm.length+Ck (t.locals.map fun s=>[V.str s])+Ck (t.body.map Sp.row):=by
 simp only[Tp.row,Ct,V.bulk,Xs];omega
theorem Add(p:Gp):Ct p.row=2+Ck (p.decls.map Dp.row)+Ck (p.thrs.map Tp.row):=by
 simp only[Gp.row,Ct,Xs];omega
theorem Hf{α:Type}{f:α->List V}:∀ {l:List α} {x:α},x∈l->Ct (f x)<=Ck (l.map f)
 | y::l,x,h=>by
  rw[Ba,Ck];rcases Be.1 h with rfl | h
  ·omega
  ·have:=Hf (f:=f) h;omega
theorem Ib{α:Type}{f:α->List V}(hf:∀ x,1<=Ct (f x)):∀ l:List α,l.length<=Ck (l.map f)
 | []=>by simp
 | x::l=>by
  rw[Ba,Ck,Am];have:=Ib hf l;have:=hf x;omega
theorem El{a b:AC}{k:List It}{e:Env}{σ:St}{Q:Env->St->Prop}(P:Env->St->Prop)(h1:∀ k',(∀ e σ,P e σ->W TT PT k' e σ Q)->W TT PT (.c a::k') e σ Q)(h2:∀ e σ,P e σ->W TT PT (.c b::k) e σ Q):W TT PT (.c (.seq a b)::k) e σ Q:=by
 rw[Ac6];exact h1 _ h2
theorem Anb(op:Int):Fn TT PT 243 [.int .i64 op] (.int .i64 (Su op)):=by
 refine Bn T243 rfl ?_;unfold Su;by_cases h1:op=1
 ·subst h1;simp only[go_sem,Int.reduceBEq];exact An rfl rfl
 have e1:(op==1)=false:=by simp[h1]
 by_cases h2:op=2
 ·subst h2;simp only[go_sem,e1,Int.reduceBEq];exact An rfl rfl
 have e2:(op==2)=false:=by simp[h2]
 rw[if_neg (by omega)];by_cases h3:3<=op/\op<=5
 ·have g3:((3:Int)<=op)=True:=eq_true h3.1;have g5:(op<=5)=True:=eq_true h3.2;rw[if_pos h3];simp only[go_sem,e1,e2,g3,g5,ge_iff_le];exact An rfl rfl
 rw[if_neg h3];by_cases h6:6<=op/\op<=18
 ·have g3:((3:Int)<=op)=True:=eq_true (by omega);have g5:(op<=5)=False:=eq_false (by omega);have g6:((6:Int)<=op)=True:=eq_true h6.1;have g7:(op<=18)=True:=eq_true h6.2;rw[if_pos h6];simp only[go_sem,e1,e2,g3,g5,g6,g7,ge_iff_le];exact An rfl rfl
 rw[if_neg h6];by_cases hl:3<=op
 ·have g3:((3:Int)<=op)=True:=eq_true (by omega);have g5:(op<=5)=False:=eq_false (by omega);have g6:((6:Int)<=op)=True:=eq_true (by omega);have g7:(op<=18)=False:=eq_false (by omega);simp only[go_sem,e1,e2,g3,g5,g6,g7,ge_iff_le];exact An rfl rfl
 ·have g3:((3:Int)<=op)=False:=eq_false (by omega);have g6:((6:Int)<=op)=False:=eq_false (by omega);simp only[go_sem,e1,e2,g3,g6,ge_iff_le];exact An rfl rfl
theorem Aqv(x:Xp)(hl:x.l.length<=1000000000):Fn TT PT 214 [.agg x.row] (.bool (Ya x)):=by
 refine Bn T214 rfl ?_;rw[Ax];unfold Ya;have hlen:(x.l.map Xp.row).length=x.l.length:=Bl ..;cases h1:(x.op==0)
 ·simp only[go_sem,h1];exact An rfl rfl
 cases h2:(x.n==0)
 ·simp only[go_sem,h1,h2];exact An rfl rfl
 cases h3:(x.nm==[])
 ·simp only[go_sem,h1,h2,h3];exact An rfl rfl
 have e:((x.l.length:Int)==0)=x.l.isEmpty:=by
  cases x.l with
  | nil=>rfl
  | cons a b=>simp;omega
 simp only[go_sem,h1,h2,h3,hlen,e];exact An rfl rfl
set_option maxHeartbeats 1000000 in
theorem Aqw(x:Xp)(hl:x.l.length<=1000000000)(ih:∀ y∈x.l,Fn TT PT 213 [.agg y.row] (.bool (Fr y))):Fn TT PT 213 [.agg x.row] (.bool (Fr x)):=by
 obtain⟨op,n,nm,z,t,l⟩:=x;have hr:=Ax ⟨op,n,nm,z,t,l⟩;have hR:=Aue ⟨op,n,nm,z,t,l⟩;generalize Fr ⟨op,n,nm,z,t,l⟩=R at hR ⊢;simp only at hr hl ih hR;rw[hr];clear hr;unfold shH at hR;have hlen:(l.map Xp.row).length=l.length:=Bl ..;refine Bn T213 rfl ?_;refine El (fun e σ=>e=[(1,.ptr 0 0 0)]/\σ=[.row [.int .i64 op,.int .i64 n,.str nm,SL z t (l.map Xp.row)] 103 0 0]) (fun k' hk=>?_) ?_
 ·simp only[go_sem];exact hk _ _ ⟨rfl,rfl⟩
 rintro e σ ⟨rfl,rfl⟩;refine El (fun e σ=>e=[(1,.ptr 0 0 0),(3,.bool (op==2||op==3))]/\σ=[.row [.int .i64 op,.int .i64 n,.str nm,SL z t (l.map Xp.row)] 103 0 0]) (fun k' hk=>?_) ?_
 ·cases h2:(op==2)
  ·simp only[go_sem,h2];exact hk _ _ ⟨by rw[h2];rfl,rfl⟩
  ·simp only[go_sem,h2];exact hk _ _ ⟨by rw[h2];rfl,rfl⟩
 rintro e σ ⟨rfl,rfl⟩;generalize(op==2||op==3)=nb at hR ⊢;have ho:=Anb op;have hna:=O9 nm;refine El (fun e σ=>(e=[(1,.ptr 0 0 0)]/\σ=[.row [.int .i64 op,.int .i64 n,.str nm,SL z t (l.map Xp.row)] 103 0 0])/\R=l.all Fr) (fun k' hk=>?_) ?_
 ·cases h1:(Su op != (l.length:Int));rotate_left
  ·have b1:(Su op==(l.length:Int))=false:=by simpa using h1
   rw[b1]at hR;subst hR;simp only[go_sem];refine Ag (by kernel_rfl) ?_;simp only[go_sem];refine Bf ho rfl ?_;simp only[go_sem,hlen,h1];exact An rfl rfl
  have b1:(Su op==(l.length:Int))=true:=by simpa using h1
  rw[b1]at hR
  have lt:∀ {a:Int},decide (0<=a)=!decide (a<0):=fun {a}=>by
   by_cases h:0<=a
   ·rw[decide_eq_true h,decide_eq_false (by omega)];rfl
   ·rw[decide_eq_false h,decide_eq_true (by omega)];rfl
  cases nb<;>cases h2:(nm==[])
  ·rw[h2]at hR;subst hR;simp only[go_sem];refine Ag (by kernel_rfl) ?_;simp only[go_sem];refine Bf ho rfl ?_;simp only[go_sem,hlen,h1,h2,Av,Ap,beq_self_eq_true,Ht,Hu];exact An rfl rfl
  ·rw[h2]at hR;cases h4:decide (n<0);rotate_left
   ·rw[lt,h4]at hR;simp only[Ap,Qp,Z4]at hR;subst hR;simp only[go_sem];refine Ag (by kernel_rfl) ?_;simp only[go_sem];refine Bf ho rfl ?_;simp only[go_sem,hlen,h1,h2,Av,Ap,beq_self_eq_true,Ht,Hu,h4];exact An rfl rfl
   rw[lt,h4]at hR;cases h5:(op==1);rotate_left
   ·rw[h5]at hR;have h5':(op != 1)=false:=by simp[bne,h5]
    simp only[go_sem];refine Ag (by kernel_rfl) ?_;simp only[go_sem];refine Bf ho rfl ?_;simp only[go_sem,hlen,h1,h2,Av,Ap,beq_self_eq_true,Ht,Hu,h4,h5'];exact hk _ _ ⟨⟨rfl,rfl⟩,by rw[hR];rfl⟩
   rw[h5]at hR;have h5':(op != 1)=true:=by simp[bne,h5]
   cases h6:(n==0)
   ·rw[h6]at hR;have h6':(n != 0)=true:=by simp[bne,h6]
    simp only[Av,Ap,Z4,Bool.or_false,Qp]at hR;subst hR;simp only[go_sem];refine Ag (by kernel_rfl) ?_;simp only[go_sem];refine Bf ho rfl ?_;simp only[go_sem,hlen,h1,h2,Av,Ap,beq_self_eq_true,Ht,Hu,h4,h5',h6'];exact An rfl rfl
   rw[h6]at hR;have h6':(n != 0)=false:=by simp[bne,h6]
   simp only[go_sem];refine Ag (by kernel_rfl) ?_;simp only[go_sem];refine Bf ho rfl ?_;simp only[go_sem,hlen,h1,h2,Av,Ap,beq_self_eq_true,Ht,Hu,h4,h5',h6'];exact hk _ _ ⟨⟨rfl,rfl⟩,by rw[hR];rfl⟩
  ·rw[h2]at hR;cases h3:Bv nm
   ·rw[h3]at hR hna;subst hR;simp only[go_sem];refine Ag (by kernel_rfl) ?_;simp only[go_sem];refine Bf ho rfl ?_;simp only[go_sem,hlen,h1,h2,Av,Ap,beq_self_eq_true,Ht,Hu];refine Bf hna rfl ?_;simp only[go_sem,hlen,h1,h2,Av,Ap,beq_self_eq_true,Ht,Hu];exact An rfl rfl
   rw[h3]at hR hna;cases h4:decide (n<0);rotate_left
   ·rw[lt,h4]at hR;simp only[Ap,Qp,Z4]at hR;subst hR;simp only[go_sem];refine Ag (by kernel_rfl) ?_;simp only[go_sem];refine Bf ho rfl ?_;simp only[go_sem,hlen,h1,h2,Av,Ap,beq_self_eq_true,Ht,Hu];refine Bf hna rfl ?_;simp only[go_sem,hlen,h1,h2,Av,Ap,beq_self_eq_true,Ht,Hu,h4];exact An rfl rfl
   rw[lt,h4]at hR;cases h5:(op==1);rotate_left
   ·rw[h5]at hR;have h5':(op != 1)=false:=by simp[bne,h5]
    simp only[go_sem];refine Ag (by kernel_rfl) ?_;simp only[go_sem];refine Bf ho rfl ?_;simp only[go_sem,hlen,h1,h2,Av,Ap,beq_self_eq_true,Ht,Hu];refine Bf hna rfl ?_;simp only[go_sem,hlen,h1,h2,Av,Ap,beq_self_eq_true,Ht,Hu,h4,h5'];exact hk _ _ ⟨⟨rfl,rfl⟩,by rw[hR];rfl⟩
   rw[h5]at hR;have h5':(op != 1)=true:=by simp[bne,h5]
   cases h6:(n==0)
   ·rw[h6]at hR;have h6':(n != 0)=true:=by simp[bne,h6]
    simp only[Av,Ap,Z4,Bool.or_false,Qp]at hR;subst hR;simp only[go_sem];refine Ag (by kernel_rfl) ?_;simp only[go_sem];refine Bf ho rfl ?_;simp only[go_sem,hlen,h1,h2,Av,Ap,beq_self_eq_true,Ht,Hu];refine Bf hna rfl ?_;simp only[go_sem,hlen,h1,h2,Av,Ap,beq_self_eq_true,Ht,Hu,h4,h5',h6'];exact An rfl rfl
   rw[h6]at hR;have h6':(n != 0)=false:=by simp[bne,h6]
   simp only[go_sem];refine Ag (by kernel_rfl) ?_;simp only[go_sem];refine Bf ho rfl ?_;simp only[go_sem,hlen,h1,h2,Av,Ap,beq_self_eq_true,Ht,Hu];refine Bf hna rfl ?_;simp only[go_sem,hlen,h1,h2,Av,Ap,beq_self_eq_true,Ht,Hu,h4,h5',h6'];exact hk _ _ ⟨⟨rfl,rfl⟩,by rw[hR];rfl⟩
  ·rw[h2]at hR;subst hR;simp only[go_sem];refine Ag (by kernel_rfl) ?_;simp only[go_sem];refine Bf ho rfl ?_;simp only[go_sem,hlen,h1,h2,Av,Ap,beq_self_eq_true,Ht,Hu];exact An rfl rfl
 rintro e σ ⟨⟨rfl,rfl⟩,hR⟩;simp only[go_sem];refine B9 (α:=Nat) (fun i=>l.length - i) (fun i=>[(1,.ptr 0 0 0),(4,.int .i64 (i:Int))]) (fun _=>[.row [.int .i64 op,.int .i64 n,.str nm,SL z t (l.map Xp.row)] 103 0 0]) (fun i=>i<=l.length/\l.all Fr=(l.drop i).all Fr) ?_ 0 ⟨A2 _,rfl⟩;rintro i ⟨hi,hinv⟩ jh;refine Ca (by delta lp213_0;exact rfl) ?_;by_cases hc:i<l.length
 ·have f1:((i:Int)<(l.length:Int))=True:=eq_true (by omega);have hin:=Bg (show i<9223372036854775807 by omega);obtain⟨a,ha⟩:∃ a,l[i]?=some a:=⟨_,A0 hc⟩;have har:=Ax a;have has:=C7 a;have hf:=ih a (Gq ha);have ha':(l.map Xp.row)[i]?=some [.int .i64 a.op,.int .i64 a.n,.str a.nm,SL a.z a.t (a.l.map Xp.row)]:=by rw[Bb,ha,Ha,har]
  have hda:l.drop i=a::l.drop (i+1):=by rw[Je hc,(Ar.1 ha).2]
  rw[hda,Au]at hinv;rw[har]at hf has;cases hab:Fr a
  ·rw[hab]at hf hinv;rw[hinv]at hR;subst hR;simp only[go_sem,hlen,f1,ha'];refine Ad hf (by simp only[go_sem]) ?_;simp only[go_sem];exact An rfl rfl
  ·rw[hab]at hf hinv;simp only[go_sem,hlen,f1,ha'];refine Ad hf (by simp only[go_sem]) ?_;simp only[go_sem,hin];exact Bi (jh (i+1) (by omega) ⟨hc,by simpa using hinv⟩) rfl
 ·have f1:((i:Int)<(l.length:Int))=False:=eq_false (by omega);rw[hinv,Fk (by omega)]at hR;subst hR;simp only[go_sem,hlen,f1];exact An rfl rfl
theorem Yb:∀ (N:Nat) (x:Xp),Ct x.row<=N->N<=1000000000->Fn TT PT 213 [.agg x.row] (.bool (Fr x))
 | 0,x,h,_=>by rw[Fg]at h;omega
 | N+1,x,h,hN=>by
  have h1:=Fg x;have h2:=Ib (f:=Xp.row) (fun x=>by rw[Fg];omega) x.l;refine Aqw x (by omega) fun y hy=>Yb N y ?_ (by omega)
  have:=Hf (f:=Xp.row) hy;omega
