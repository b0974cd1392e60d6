/- Plain: an edited program: statements of the old one, each at most twice. -/
import Derived.Test.YtphikjgngompaacGreatDoorGd
set_option linter.all false
namespace Go.Proofs.YtphikjgngompaacGreatDoor.KM
open Go
def Nq(l:List Sp):Nat:=(Sp.txts 1 l).length
def Zn:Nq []=0:=rfl
def V9(s:Sp)(l:List Sp):Nq (s::l)=(s.txt 1).length+Nq l:=by unfold Nq;rw[Sp.txts,Aj]
def Zo:∀ a b:List Sp,Nq (a++b)=Nq a+Nq b
 | [],b=>by rw[Ct,Zn];omega
 | s::a,b=>by rw[Mw,V9,V9,Zo a b];omega
def Add{l:List Sp}{i:Nat}(h:i<l.length):Nq (l.take (i+1))=Nq (l.take i)+(l[i].txt 1).length:=by
 rw[Ld,Cb h,Vj,Zo,V9,Zn];omega
structure EdB (l:List Sp) (i:Nat) (b:List Sp):Prop where
 mem:∀ s∈b,s∈l
 len:Nq b<=2*Nq (l.take i)
 cnt:b.length<=2*i
def A67(l:List Sp):EdB l 0 []:=⟨fun _ h=>absurd h AE,(by simp[Zn]),As _⟩
def A68{l b:List Sp}{i:Nat}(h:EdB l i b)(hi:i<l.length):EdB l (i+1) b:=⟨h.mem,by have:=h.len;rw[Add hi];omega,by have:=h.cnt;omega⟩
def Aum{l b:List Sp}{i:Nat}(h:EdB l i b)(hi:i<l.length):EdB l (i+1) (b++[l[i]]):=by
 refine⟨fun s hs=>?_,?_,?_⟩
 .rcases Cs.1 hs with hs | hs
  .exact h.mem s hs
  .rw[Hh]at hs;rw[hs];exact Nw hi
 .have:=h.len;rw[Add hi,Zo,V9,Zn];omega
 .have:=h.cnt;simp;omega
def Bbs{l b:List Sp}{i:Nat}(h:EdB l i b)(hi:i<l.length):EdB l (i+1) ((b++[l[i]])++[l[i]]):=by
 refine⟨fun s hs=>?_,?_,?_⟩
 .rcases Cs.1 hs with hs | hs
  .exact(Aum h hi).mem s hs
  .rw[Hh]at hs;rw[hs];exact Nw hi
 .have:=h.len;rw[Add hi,Zo,Zo,V9,Zn];omega
 .have:=h.cnt;simp;omega
def A3v{l b:List Sp}{i:Nat}(h:EdB l i b)(hi:i<l.length):EdB l (i+1) (l[i]::b):=by
 refine⟨fun s hs=>?_,?_,?_⟩
 .rcases B7.1 hs with hs | hs
  .rw[hs];exact Nw hi
  .exact h.mem s hs
 .have:=h.len;rw[Add hi,V9];omega
 .have:=h.cnt;simp;omega
inductive EdT:List Tp->List Tp->Prop
 | nil:EdT [] []
 | cons {t t':Tp} {l l':List Tp}:t'.nm=t.nm->t'.locals=t.locals->EdB t.body t.body.length t'.body->EdT l l'->EdT (t::l) (t'::l')
def Aun:∀ {l l':List Tp} {t t':Tp},EdT l l'->t'.nm=t.nm->t'.locals=t.locals->EdB t.body t.body.length t'.body->EdT (l++[t]) (l'++[t'])
 | _,_,_,_,.nil,h1,h2,h3=>.cons h1 h2 h3 .nil
 | _,_,_,_,.cons a b c d,h1,h2,h3=>.cons a b c (Aun d h1 h2 h3)
def Ajt:∀ {l l':List Tp},EdT l l'->((l'.map Fx).flatten).length<=2*((l.map Fx).flatten).length/\l'.length=l.length
 | _,_,.nil=>⟨Am _,rfl⟩
 | _,_,.cons (t:=t) (t':=t') a b c d=>by
  obtain⟨h1,h2⟩:=Ajt d;have h3:=c.len;rw[Dh]at h3;unfold Nq at h3;rw[Bh,Bh,Gv,Gv,Aj,Aj,Be,Be,h2]
  have h4:(Fx t').length<=2*(Fx t).length:=by
   unfold Fx;rw[a,b];simp only[Aj,Be,Dn];omega
  exact⟨by omega,rfl⟩
def Awr:∀ {l l':List Tp},EdT l l'->(∀ t∈l,∀ s∈t.body,CnS s)->∀ t∈l',∀ s∈t.body,CnS s
 | _,_,.nil,_,t,ht,_,_=>by cases ht
 | _,_,.cons a b c d,h,t,ht,s,hs=>by
  rcases B7.1 ht with rfl | ht
  .exact h _ Cz s (c.mem s hs)
  .exact Awr d (fun t ht=>h t (Dl _ ht)) t ht s hs
def Bbt{p q:Gp}(hd:q.decls=p.decls)(ht:EdT p.thrs q.thrs)(hc:CnG p):CnG q/\(Il q).length<=2*(Il p).length:=by
 refine⟨⟨fun d h=>hc.decls d (hd ▸ h),Awr ht hc.thrs⟩,?_⟩;have:=(Ajt ht).1;unfold Il;rw[hd,Aj,Aj];omega
/-! shapes -/
def shH(op n:Int)(nm:List UInt8)(k:Nat):Bool:=
 Xt op==(k:Int)&&((op==2||op==3)==!(nm==[])&&((!(op==2||op==3)||B3 nm)&&(decide (0<=n)&&(op==1||n==0))))
mutual
def Hx:Xp->Bool
 | ⟨op,n,nm,_,_,l⟩=>shH op n nm l.length&&Age l
def Age:List Xp->Bool
 | []=>true
 | x::l=>Hx x&&Age l
end
def Ar4:∀ l:List Xp,Age l=l.all Hx
 | []=>rfl
 | x::l=>by rw[Age,Ar4 l];rfl
def Bbu(x:Xp):Hx x=(shH x.op x.n x.nm x.l.length&&x.l.all Hx):=by
 rw[<-Ar4];cases x;rfl
def Aep(x:Xp):Bool:=x.op==0&&(x.n==0&&(x.nm==[]&&x.l.isEmpty))
def Am0(s:Sp):Bool:=
 decide (1<=s.op)&&(decide (s.op<=15)&&((if Gx s.op then s.nm==[] else B3 s.nm)&&((if s.op=15 then B3 s.arg else s.arg==[]) &&
  (decide (s.idx.length<=1)&&((s.op==1||s.idx.isEmpty)&&(s.idx.all Hx&&((if Fe s.op then Hx s.ex else Aep s.ex) &&
   ((B6 s.op||s.body.isEmpty)&&(s.op==2||s.els.isEmpty)))))))))
mutual
def O5:Sp->Bool
 | ⟨op,line,nm,arg,iz,it,idx,ex,bz,bt,body,ez,et,els⟩=>Am0 ⟨op,line,nm,arg,iz,it,idx,ex,bz,bt,body,ez,et,els⟩&&(Lb body&&Lb els)
def Lb:List Sp->Bool
 | []=>true
 | x::l=>O5 x&&Lb l
end
def Ar5:∀ l:List Sp,Lb l=l.all O5
 | []=>rfl
 | x::l=>by rw[Lb,Ar5 l];rfl
def Bbv(s:Sp):O5 s=(Am0 s&&(Lb s.body&&Lb s.els)):=by
 cases s;rfl
def Vd(d:Dp):Bool:=
 decide (1<=d.kind)&&(decide (d.kind<=6)&&(B3 d.nm&&(decide (0<=d.size)&&((d.kind==1||d.size==0)&&((if d.kind=5 then B3 d.on else d.on==[]) &&
  (decide (-9223372036854775808<d.init)&&(d.init==0||(d.kind==1||d.kind==2))))))))
def shT(t:Tp):Bool:=t.locals.all B3&&(B3 t.nm&&Lb t.body)
def shG(p:Gp):Bool:=p.decls.all Vd&&(p.thrs.all shT&&!p.thrs.isEmpty)
/-! what is in range -/
/-! bulk -/
def Adw(z:Bool)(t:Nat)(rows:List (List V)):(SL z t rows).bulk=Cx rows+1:=by
 unfold SL
 split
 .rename_i h;rw[h.2];simp[V.bulk,Cx]
 .simp[V.bulk]
theorem Ha(x:Xp):C6 x.row=4+x.nm.length+Cx (x.l.map Xp.row):=by
 rw[Bi];simp only[C6,V.bulk,Adw];omega
theorem Ng(s:Sp):C6 s.row=7+s.nm.length+s.arg.length+Cx (s.idx.map Xp.row)+C6 s.ex.row+Cx (s.body.map Sp.row)+Cx (s.els.map Sp.row):=by
 rw[Ru];simp only[Ag6,C6,V.bulk,Adw];omega
theorem Bms(d:Dp):C6 d.row=6+d.nm.length+d.on.length:=by
 simp only[Dp.row,C6,V.bulk];omega
theorem Aar(t:Tp):C6 t.row=4+t.nm.length+Cx (t.locals.map fun s=>[V.str s])+Cx (t.body.map Sp.row):=by
 simp only[Tp.row,C6,V.bulk,Adw];omega
def Alz(p:Gp):C6 p.row=2+Cx (p.decls.map Dp.row)+Cx (p.thrs.map Tp.row):=by
 simp only[Gp.row,C6,Adw];omega
theorem Jy{α:Type}{f:α->List V}:∀ {l:List α} {x:α},x∈l->C6 (f x)<=Cx (l.map f)
 | y::l,x,h=>by
  rw[Bh,Cx];rcases B7.1 h with rfl | h
  .omega
  .have:=Jy (f:=f) h;omega
def Lf{α:Type}{f:α->List V}(hf:∀ x,1<=C6 (f x)):∀ l:List α,l.length<=Cx (l.map f)
 | []=>by simp
 | x::l=>by
  rw[Bh,Cx,Be];have:=Lf hf l;have:=hf x;omega
def Ge{a b:AC}{k:List It}{e:Env}{σ:St}{Q:Env->St->Prop}(P:Env->St->Prop)(h1:∀ k',(∀ e σ,P e σ->W TT PT k' e σ Q)->W TT PT (.c a::k') e σ Q)(h2:∀ e σ,P e σ->W TT PT (.c b::k) e σ Q):W TT PT (.c (.seq a b)::k) e σ Q:=by
 rw[Alj];exact h1 _ h2
def A0w(op:Int):Fn TT PT 211 [iV op] (iV (Xt op)):=by
 refine Bg T211 rfl ?_;unfold Xt;by_cases h1:op=1
 .subst h1;simp only[go_sem,Int.reduceBEq];exact Ae rfl rfl
 have e1:(op==1)=false:=by simp[h1]
 by_cases h2:op=2
 .subst h2;simp only[go_sem,e1,Int.reduceBEq];exact Ae rfl rfl
 have e2:(op==2)=false:=by simp[h2]
 rw[if_neg AA];by_cases h3:3<=op/\op<=5
 .have g3:((3:Int)<=op)=True:=eq_true h3.1;have g5:(op<=5)=True:=eq_true h3.2;rw[if_pos h3];simp only[go_sem,e1,e2,g3,g5,ge_iff_le];exact Ae rfl rfl
 rw[if_neg h3];by_cases h6:6<=op/\op<=18
 .have g3:((3:Int)<=op)=True:=eq_true AA;have g5:(op<=5)=False:=eq_false AA;have g6:((6:Int)<=op)=True:=eq_true h6.1;have g7:(op<=18)=True:=eq_true h6.2;rw[if_pos h6];simp only[go_sem,e1,e2,g3,g5,g6,g7,ge_iff_le];exact Ae rfl rfl
 rw[if_neg h6];by_cases hl:3<=op
 .have g3:((3:Int)<=op)=True:=eq_true AA;have g5:(op<=5)=False:=eq_false AA;have g6:((6:Int)<=op)=True:=eq_true AA;have g7:(op<=18)=False:=eq_false AA;simp only[go_sem,e1,e2,g3,g5,g6,g7,ge_iff_le];exact Ae rfl rfl
 .have g3:((3:Int)<=op)=False:=eq_false AA;have g6:((6:Int)<=op)=False:=eq_false AA;simp only[go_sem,e1,e2,g3,g6,ge_iff_le];exact Ae rfl rfl
def A69(x:Xp)(hl:x.l.length<=1000000000):Fn TT PT 187 [.agg x.row] (.bool (Aep x)):=by
 refine Bg T187 rfl ?_;rw[Bi];unfold Aep;have qc:(x.l.map Xp.row).length=x.l.length:=Av ..;cases h1:(x.op==0)
 .simp only[go_sem,h1];exact Ae rfl rfl
 cases h2:(x.n==0)
 .simp only[go_sem,h1,h2];exact Ae rfl rfl
 cases h3:(x.nm==[])
 .simp only[go_sem,h1,h2,h3];exact Ae rfl rfl
 have e:((x.l.length:Int)==0)=x.l.isEmpty:=by
  cases x.l with
  | nil=>rfl
  | cons a b=>grind
 simp only[go_sem,h1,h2,h3,qc,e];exact Ae rfl rfl
set_option maxHeartbeats 1000000 in
def A7a(x:Xp)(hl:x.l.length<=1000000000)(ih:∀ y∈x.l,Fn TT PT 186 [.agg y.row] (.bool (Hx y))):Fn TT PT 186 [.agg x.row] (.bool (Hx x)):=by
 obtain⟨op,n,nm,z,t,l⟩:=x;have hr:=Bi ⟨op,n,nm,z,t,l⟩;have hR:=Bbu ⟨op,n,nm,z,t,l⟩;generalize Hx ⟨op,n,nm,z,t,l⟩=R at hR ⊢;simp only at hr hl ih hR;rw[hr];clear hr;unfold shH at hR;have qc:(l.map Xp.row).length=l.length:=Av ..;refine Bg T186 rfl ?_;refine Ge (fun e σ=>e=[(1,.ptr 0 0 0)]/\σ=[.row [iV op,iV n,.str nm,SL z t (l.map Xp.row)] 98 0 0]) (fun k' hk=>?_) ?_
 .simp only[go_sem];exact hk _ _ ⟨rfl,rfl⟩
 rintro e σ ⟨rfl,rfl⟩;refine Ge (fun e σ=>e=[(1,.ptr 0 0 0),(3,.bool (op==2||op==3))]/\σ=[.row [iV op,iV n,.str nm,SL z t (l.map Xp.row)] 98 0 0]) (fun k' hk=>?_) ?_
 .cases h2:(op==2)
  .simp only[go_sem,h2];exact hk _ _ ⟨by grind,rfl⟩
  .simp only[go_sem,h2];exact hk _ _ ⟨by grind,rfl⟩
 rintro e σ ⟨rfl,rfl⟩;generalize(op==2||op==3)=nb at hR ⊢;have ho:=A0w op;have qg:=Rt nm;refine Ge (fun e σ=>(e=[(1,.ptr 0 0 0)]/\σ=[.row [iV op,iV n,.str nm,SL z t (l.map Xp.row)] 98 0 0])/\R=l.all Hx) (fun k' hk=>?_) ?_
 .cases h1:(Xt op != (l.length:Int));rotate_left
  .have b1:(Xt op==(l.length:Int))=false:=by simpa using h1
   rw[b1]at hR;subst hR;simp only[go_sem];refine Ad AD ?_;simp only[go_sem];refine Ax ho rfl ?_;simp only[go_sem,qc,h1];exact Ae rfl rfl
  have b1:(Xt op==(l.length:Int))=true:=by simpa using h1
  rw[b1]at hR
  have lt:∀ {a:Int},decide (0<=a)=!decide (a<0):=fun {a}=>by
   grind
  cases nb<;>cases h2:(nm==[])
  .rw[h2]at hR;subst hR;simp only[go_sem];refine Ad AD ?_;simp only[go_sem];refine Ax ho rfl ?_;simp only[go_sem,qc,h1,h2,Bc,Ba,beq_self_eq_true,Kz,K0];exact Ae rfl rfl
  .rw[h2]at hR;cases h4:decide (n<0);rotate_left
   .rw[lt,h4]at hR;simp only[Ba,Vn,Ag7]at hR;subst hR;simp only[go_sem];refine Ad AD ?_;simp only[go_sem];refine Ax ho rfl ?_;simp only[go_sem,qc,h1,h2,Bc,Ba,beq_self_eq_true,Kz,K0,h4];exact Ae rfl rfl
   rw[lt,h4]at hR;cases h5:(op==1);rotate_left
   .rw[h5]at hR;have qk:(op != 1)=false:=by simp[bne,h5]
    simp only[go_sem];refine Ad AD ?_;simp only[go_sem];refine Ax ho rfl ?_;simp only[go_sem,qc,h1,h2,Bc,Ba,beq_self_eq_true,Kz,K0,h4,qk];exact hk _ _ ⟨⟨rfl,rfl⟩,by grind⟩
   rw[h5]at hR;have qk:(op != 1)=true:=by simp[bne,h5]
   cases h6:(n==0)
   .rw[h6]at hR;have qn:(n != 0)=true:=by simp[bne,h6]
    simp only[Bc,Ba,Ag7,Bool.or_false,Vn]at hR;subst hR;simp only[go_sem];refine Ad AD ?_;simp only[go_sem];refine Ax ho rfl ?_;simp only[go_sem,qc,h1,h2,Bc,Ba,beq_self_eq_true,Kz,K0,h4,qk,qn];exact Ae rfl rfl
   rw[h6]at hR;have qn:(n != 0)=false:=by simp[bne,h6]
   simp only[go_sem];refine Ad AD ?_;simp only[go_sem];refine Ax ho rfl ?_;simp only[go_sem,qc,h1,h2,Bc,Ba,beq_self_eq_true,Kz,K0,h4,qk,qn];exact hk _ _ ⟨⟨rfl,rfl⟩,by grind⟩
  .rw[h2]at hR;cases h3:B3 nm
   .rw[h3]at hR qg;subst hR;simp only[go_sem];refine Ad AD ?_;simp only[go_sem];refine Ax ho rfl ?_;simp only[go_sem,qc,h1,h2,Bc,Ba,beq_self_eq_true,Kz,K0];refine Ax qg rfl ?_;simp only[go_sem,qc,h1,h2,Bc,Ba,beq_self_eq_true,Kz,K0];exact Ae rfl rfl
   rw[h3]at hR qg;cases h4:decide (n<0);rotate_left
   .rw[lt,h4]at hR;simp only[Ba,Vn,Ag7]at hR;subst hR;simp only[go_sem];refine Ad AD ?_;simp only[go_sem];refine Ax ho rfl ?_;simp only[go_sem,qc,h1,h2,Bc,Ba,beq_self_eq_true,Kz,K0];refine Ax qg rfl ?_;simp only[go_sem,qc,h1,h2,Bc,Ba,beq_self_eq_true,Kz,K0,h4];exact Ae rfl rfl
   rw[lt,h4]at hR;cases h5:(op==1);rotate_left
   .rw[h5]at hR;have qk:(op != 1)=false:=by simp[bne,h5]
    simp only[go_sem];refine Ad AD ?_;simp only[go_sem];refine Ax ho rfl ?_;simp only[go_sem,qc,h1,h2,Bc,Ba,beq_self_eq_true,Kz,K0];refine Ax qg rfl ?_;simp only[go_sem,qc,h1,h2,Bc,Ba,beq_self_eq_true,Kz,K0,h4,qk];exact hk _ _ ⟨⟨rfl,rfl⟩,by grind⟩
   rw[h5]at hR;have qk:(op != 1)=true:=by simp[bne,h5]
   cases h6:(n==0)
   .rw[h6]at hR;have qn:(n != 0)=true:=by simp[bne,h6]
    simp only[Bc,Ba,Ag7,Bool.or_false,Vn]at hR;subst hR;simp only[go_sem];refine Ad AD ?_;simp only[go_sem];refine Ax ho rfl ?_;simp only[go_sem,qc,h1,h2,Bc,Ba,beq_self_eq_true,Kz,K0];refine Ax qg rfl ?_;simp only[go_sem,qc,h1,h2,Bc,Ba,beq_self_eq_true,Kz,K0,h4,qk,qn];exact Ae rfl rfl
   rw[h6]at hR;have qn:(n != 0)=false:=by simp[bne,h6]
   simp only[go_sem];refine Ad AD ?_;simp only[go_sem];refine Ax ho rfl ?_;simp only[go_sem,qc,h1,h2,Bc,Ba,beq_self_eq_true,Kz,K0];refine Ax qg rfl ?_;simp only[go_sem,qc,h1,h2,Bc,Ba,beq_self_eq_true,Kz,K0,h4,qk,qn];exact hk _ _ ⟨⟨rfl,rfl⟩,by grind⟩
  .rw[h2]at hR;subst hR;simp only[go_sem];refine Ad AD ?_;simp only[go_sem];refine Ax ho rfl ?_;simp only[go_sem,qc,h1,h2,Bc,Ba,beq_self_eq_true,Kz,K0];exact Ae rfl rfl
 rintro e σ ⟨⟨rfl,rfl⟩,hR⟩;simp only[go_sem];refine Bb (α:=Nat) (fun i=>l.length - i) (fun i=>[(1,.ptr 0 0 0),(4,iV (i:Int))]) (fun _=>[.row [iV op,iV n,.str nm,SL z t (l.map Xp.row)] 98 0 0]) (fun i=>i<=l.length/\l.all Hx=(l.drop i).all Hx) ?_ 0 ⟨As _,rfl⟩;rintro i ⟨hi,qe⟩ jh;refine Ay Bgd ?_;by_cases hc:i<l.length
 .have f1:((i:Int)<(l.length:Int))=True:=eq_true AA;have qw:=Aw (show i<9223372036854775807 by omega);obtain⟨a,ha⟩:∃ a,l[i]?=some a:=⟨_,Cb hc⟩;have qo:=Bi a;have qq:=Dy a;have hf:=ih a (Hg ha);have ql:(l.map Xp.row)[i]?=some (xR a):=by rw[Ak,ha,I9,qo]
  have qu:l.drop i=a::l.drop (i+1):=by rw[Ib hc,(An.1 ha).2]
  rw[qu,B5]at qe;rw[qo]at hf qq;cases hab:Hx a
  .rw[hab]at hf qe;rw[qe]at hR;subst hR;simp only[go_sem,qc,f1,ql];refine Ab hf (by grind) ?_;simp only[go_sem];exact Ae rfl rfl
  .rw[hab]at hf qe;simp only[go_sem,qc,f1,ql];refine Ab hf (by grind) ?_;simp only[go_sem,qw];exact Ai (jh (i+1) AA ⟨hc,by grind⟩) rfl
 .have f1:((i:Int)<(l.length:Int))=False:=eq_false AA;rw[qe,D4 AA]at hR;subst hR;simp only[go_sem,qc,f1];exact Ae rfl rfl
def Aeq:∀ (N:Nat) (x:Xp),C6 x.row<=N->N<=1000000000->Fn TT PT 186 [.agg x.row] (.bool (Hx x))
 | 0,x,h,_=>by rw[Ha]at h;omega
 | N+1,x,h,hN=>by
  have h1:=Ha x;have h2:=Lf (f:=Xp.row) (fun x=>by grind[Ha]) x.l;refine A7a x AA fun y hy=>Aeq N y ?_ AA
  grind[Jy]
set_option maxHeartbeats 2000000 in
def A7b(s:Sp)(hi:∀ x∈s.idx,Fn TT PT 186 [.agg x.row] (.bool (Hx x)))(he:Fn TT PT 186 [.agg s.ex.row] (.bool (Hx s.ex)))(qv:s.ex.l.length<=1000000000)(qG:s.idx.length<=1000000000)(qF:s.body.length<=1000000000)(qH:s.els.length<=1000000000)
  (hb:Fn TT PT 118 [SL s.bz s.bt (s.body.map Sp.row)] (.bool (Lb s.body))) (hs:Fn TT PT 118 [SL s.ez s.et (s.els.map Sp.row)] (.bool (Lb s.els))):Fn TT PT 154 [.agg s.row] (.bool (O5 s)):=by
 obtain⟨op,line,nm,arg,iz,it,idx,ex,bz,bt,body,ez,et,els⟩:=s;have hr:=Ru ⟨op,line,nm,arg,iz,it,idx,ex,bz,bt,body,ez,et,els⟩;have hR:=Bbv ⟨op,line,nm,arg,iz,it,idx,ex,bz,bt,body,ez,et,els⟩;generalize O5 ⟨op,line,nm,arg,iz,it,idx,ex,bz,bt,body,ez,et,els⟩=R at hR ⊢;have qj:=A69 ex qv;simp only at hr hR hi he hb hs qG qF qH qv;rw[hr];clear hr;have qr:=Bi ex;rw[qr]at he qj ⊢;unfold Am0 at hR;simp only at hR;generalize ex.op=xo at he qj ⊢;generalize ex.n=xn at he qj ⊢;generalize ex.nm=xm at he qj ⊢;generalize ex.z=xz at he qj ⊢;generalize ex.t=xt at he qj ⊢;generalize ex.l=xl at he qj qv ⊢;clear qr;simp only[Mw,Ct];obtain⟨A3,h3⟩:∃ b,b=(if Gx op then nm==[] else B3 nm):=⟨_,rfl⟩;obtain⟨A4,h4⟩:∃ b,b=(if op=15 then B3 arg else arg==[]):=⟨_,rfl⟩;obtain⟨A5,h5⟩:∃ b,b=decide (idx.length<=1):=⟨_,rfl⟩;obtain⟨A6,h6⟩:∃ b,b=(op==1||idx.isEmpty):=⟨_,rfl⟩;obtain⟨A7,h7⟩:∃ b,b=idx.all Hx:=⟨_,rfl⟩;obtain⟨A8,h8⟩:∃ b,b=(if Fe op then Hx ex else Aep ex):=⟨_,rfl⟩;obtain⟨A9,h9⟩:∃ b,b=(B6 op||body.isEmpty):=⟨_,rfl⟩;obtain⟨A10,qB⟩:∃ b,b=(op==2||els.isEmpty):=⟨_,rfl⟩;rw[<-h3,<-h4,<-h5,<-h6,<-h7,<-h8,<-h9,<-qB]at hR;obtain⟨B1,qD⟩:∃ b,b=Lb body:=⟨_,rfl⟩;obtain⟨B2,qE⟩:∃ b,b=Lb els:=⟨_,rfl⟩;rw[<-qD]at hR hb;rw[<-qE]at hR hs;have qf:(idx.map Xp.row).length=idx.length:=Av ..;have qi:(body.map Sp.row).length=body.length:=Av ..;have qm:(els.map Sp.row).length=els.length:=Av ..;have qg:=Rt nm;have qo:=Rt arg;refine Bg T154 rfl ?_;refine Ge (fun e σ=>e=[(1,.ptr 0 0 0)]/\σ=[.row [iV op,iV line,.str nm,.str arg,SL iz it (idx.map Xp.row),iV xo,iV xn,.str xm,SL xz xt (xl.map Xp.row),SL bz bt (body.map Sp.row),SL ez et (els.map Sp.row)] 100 0 0]) (fun k' hk=>?_) ?_
 .simp only[go_sem];exact hk _ _ ⟨rfl,rfl⟩
 rintro e σ ⟨rfl,rfl⟩;refine Ge (fun e σ=>(e=[(1,.ptr 0 0 0)]/\σ=[.row [iV op,iV line,.str nm,.str arg,SL iz it (idx.map Xp.row),iV xo,iV xn,.str xm,SL xz xt (xl.map Xp.row),SL bz bt (body.map Sp.row),SL ez et (els.map Sp.row)] 100 0 0])/\(1<=op/\op<=15)/\R=((A3&&(A4&&(A5&&(A6&&(A7&&(A8&&(A9&&(A10))))))))&&(B1&&B2))) (fun k' hk=>?_) ?_
 .by_cases g1:op<1
  .rw[decide_eq_false (show ¬ 1<=op by omega)]at hR;subst hR;have f1:(op<1)=True:=eq_true g1;simp only[go_sem,f1];exact Ae rfl rfl
  have f1:(op<1)=False:=eq_false g1;rw[decide_eq_true (show 1<=op by omega)]at hR;by_cases g2:15<op
  .rw[decide_eq_false (show ¬ op<=15 by omega)]at hR;subst hR;have f2:((15:Int)<op)=True:=eq_true g2;simp only[go_sem,f1,f2,gt_iff_lt];exact Ae rfl rfl
  have f2:((15:Int)<op)=False:=eq_false g2;rw[decide_eq_true (show op<=15 by omega)]at hR;simp only[go_sem,f1,f2,gt_iff_lt];exact hk _ _ ⟨⟨rfl,rfl⟩,⟨by omega,by omega⟩,by grind⟩
 clear hR;rintro e σ ⟨⟨rfl,rfl⟩,qJ,hR⟩;refine Ge (fun e σ=>e=[(1,.ptr 0 0 0),(3,.bool (Gx op))]/\σ=[.row [iV op,iV line,.str nm,.str arg,SL iz it (idx.map Xp.row),iV xo,iV xn,.str xm,SL xz xt (xl.map Xp.row),SL bz bt (body.map Sp.row),SL ez et (els.map Sp.row)] 100 0 0]) (fun k' hk=>?_) ?_
 .unfold Gx at hk;cases q2:(op==2);rotate_left
  .simp only[go_sem,q2];exact hk _ _ ⟨by grind,rfl⟩
  cases q3:(op==3);rotate_left
  .simp only[go_sem,q2,q3];exact hk _ _ ⟨by grind,rfl⟩
  cases q7:(op==7);rotate_left
  .simp only[go_sem,q2,q3,q7];exact hk _ _ ⟨by grind,rfl⟩
  cases q8:(op==8)
  .simp only[go_sem,q2,q3,q7,q8];exact hk _ _ ⟨by grind,rfl⟩
  .simp only[go_sem,q2,q3,q7,q8];exact hk _ _ ⟨by grind,rfl⟩
 rintro e σ ⟨rfl,rfl⟩;refine Ge (fun e σ=>(e=[(1,.ptr 0 0 0)]/\σ=[.row [iV op,iV line,.str nm,.str arg,SL iz it (idx.map Xp.row),iV xo,iV xn,.str xm,SL xz xt (xl.map Xp.row),SL bz bt (body.map Sp.row),SL ez et (els.map Sp.row)] 100 0 0])/\R=((A4&&(A5&&(A6&&(A7&&(A8&&(A9&&(A10)))))))&&(B1&&B2))) (fun k' hk=>?_) ?_
 .cases hn:Gx op
  .rw[hn,if_neg AE]at h3;rw[<-h3]at qg;cases A3
   .subst hR;simp only[go_sem,Bc,Ba];refine Ab qg rfl ?_;simp only[go_sem,Bc,Ba];exact Ae rfl rfl
   .simp only[go_sem,Bc,Ba];refine Ab qg rfl ?_;simp only[go_sem,Bc,Ba];exact hk _ _ ⟨⟨rfl,rfl⟩,by grind⟩
  .rw[hn,if_pos rfl]at h3;have h3:=h3.symm;cases A3
   .subst hR;simp only[go_sem,Bc,Ba,h3];exact Ae rfl rfl
   .simp only[go_sem,Bc,Ba,h3];exact hk _ _ ⟨⟨rfl,rfl⟩,by grind⟩
 clear hR;rintro e σ ⟨⟨rfl,rfl⟩,hR⟩;refine Ge (fun e σ=>(e=[(1,.ptr 0 0 0)]/\σ=[.row [iV op,iV line,.str nm,.str arg,SL iz it (idx.map Xp.row),iV xo,iV xn,.str xm,SL xz xt (xl.map Xp.row),SL bz bt (body.map Sp.row),SL ez et (els.map Sp.row)] 100 0 0])/\R=((A5&&(A6&&(A7&&(A8&&(A9&&(A10))))))&&(B1&&B2))) (fun k' hk=>?_) ?_
 .by_cases qt:op=15
  .rw[if_pos qt]at h4;rw[<-h4]at qo;have qp:(op==15)=true:=by simp[qt]
   cases A4
   .subst hR;simp only[go_sem,Bc,Ba,qp,bne];refine Ab qo rfl ?_;simp only[go_sem,Bc,Ba];exact Ae rfl rfl
   .simp only[go_sem,Bc,Ba,qp,bne];refine Ab qo rfl ?_;simp only[go_sem,Bc,Ba,qp,bne];exact hk _ _ ⟨⟨rfl,rfl⟩,by grind⟩
  .rw[if_neg qt]at h4;have h4:=h4.symm;have qp:(op==15)=false:=by simp[qt]
   cases A4
   .subst hR;simp only[go_sem,Bc,Ba,h4,qp,bne];exact Ae rfl rfl
   .simp only[go_sem,Bc,Ba,h4,qp,bne];exact hk _ _ ⟨⟨rfl,rfl⟩,by grind⟩
 clear hR;rintro e σ ⟨⟨rfl,rfl⟩,hR⟩;refine Ge (fun e σ=>(e=[(1,.ptr 0 0 0)]/\σ=[.row [iV op,iV line,.str nm,.str arg,SL iz it (idx.map Xp.row),iV xo,iV xn,.str xm,SL xz xt (xl.map Xp.row),SL bz bt (body.map Sp.row),SL ez et (els.map Sp.row)] 100 0 0])/\R=((A8&&(A9&&(A10)))&&(B1&&B2))) (fun k' hk=>?_) ?_
 .have hN:idx.length=0\/idx.length=1\/2<=idx.length:=by omega
  rcases hN with h | h | h
  .have qh:idx=[]:=Mb.1 h;have f1:((1:Int)<(idx.length:Int))=False:=eq_false AA;have f2:((0:Int)<(idx.length:Int))=False:=eq_false AA;have f3:((idx.length:Int)==1)=false:=by simp[h]
   rw[h5,h6,h7]at hR
   have hR:R=((A8&&(A9&&A10))&&(B1&&B2)):=by rw[hR,qh];cases(op==1)<;>rfl
   cases q1:(op==1)
   .simp only[go_sem,Bc,Ba,q1,bne,qf,f1,f2,f3,gt_iff_lt];exact hk _ _ ⟨⟨rfl,rfl⟩,hR⟩
   .simp only[go_sem,Bc,Ba,q1,bne,qf,f1,f2,f3,gt_iff_lt];exact hk _ _ ⟨⟨rfl,rfl⟩,hR⟩
  .obtain⟨a,qh⟩:=Agu.1 h;have f1:((1:Int)<(idx.length:Int))=False:=eq_false AA;have f2:((0:Int)<(idx.length:Int))=True:=eq_true AA;have f3:((idx.length:Int)==1)=true:=by simp[h]
   have qr:=Bi a;have qq:=Dy a;have hf:=hi a (by grind);have ql:(idx.map Xp.row)[0]?=some [iV a.op,iV a.n,.str a.nm,SL a.z a.t (a.l.map Xp.row)]:=by rw[qh,<-qr];rfl
   rw[qr]at hf qq;have h5:A5=true:=by rw[h5,qh];rfl
   have h7:A7=Hx a:=by rw[h7,qh,B5,Dc,Ag8]
   have h6:A6=(op==1):=by rw[h6,qh];simp
   rw[h5,h6,h7]at hR;cases q1:(op==1)
   .rw[q1]at hR;subst hR;simp only[go_sem,Bc,Ba,q1,bne,qf,f1,f2,f3,gt_iff_lt];exact Ae rfl rfl
   rw[q1]at hR;cases hab:Hx a
   .rw[hab]at hR hf;subst hR;simp only[go_sem,Bc,Ba,q1,bne,qf,f1,f2,f3,gt_iff_lt,ql];refine Ab hf (by grind) ?_;simp only[go_sem,Bc,Ba];exact Ae rfl rfl
   .rw[hab]at hR hf;simp only[go_sem,Bc,Ba,q1,bne,qf,f1,f2,f3,gt_iff_lt,ql];refine Ab hf (by grind) ?_;simp only[go_sem,Bc,Ba];exact hk _ _ ⟨⟨rfl,rfl⟩,hR⟩
  .have f1:((1:Int)<(idx.length:Int))=True:=eq_true AA;rw[show A5=false from by grind]at hR;subst hR;simp only[go_sem,Bc,Ba,qf,f1,gt_iff_lt];exact Ae rfl rfl
 clear hR;rintro e σ ⟨⟨rfl,rfl⟩,hR⟩;refine Ge (fun e σ=>e=[(1,.ptr 0 0 0),(4,.bool (Fe op))]/\σ=[.row [iV op,iV line,.str nm,.str arg,SL iz it (idx.map Xp.row),iV xo,iV xn,.str xm,SL xz xt (xl.map Xp.row),SL bz bt (body.map Sp.row),SL ez et (els.map Sp.row)] 100 0 0]) (fun k' hk=>?_) ?_
 .unfold Fe at hk;cases q1:(op==1);rotate_left
  .simp only[go_sem,q1];exact hk _ _ ⟨by grind,rfl⟩
  cases q2:(op==2);rotate_left
  .simp only[go_sem,q1,q2];exact hk _ _ ⟨by grind,rfl⟩
  cases q3:(op==3);rotate_left
  .simp only[go_sem,q1,q2,q3];exact hk _ _ ⟨by grind,rfl⟩
  cases q14:(op==14)
  .simp only[go_sem,q1,q2,q3,q14];exact hk _ _ ⟨by grind,rfl⟩
  .simp only[go_sem,q1,q2,q3,q14];exact hk _ _ ⟨by grind,rfl⟩
 rintro e σ ⟨rfl,rfl⟩;refine Ge (fun e σ=>(e=[(1,.ptr 0 0 0)]/\σ=[.row [iV op,iV line,.str nm,.str arg,SL iz it (idx.map Xp.row),iV xo,iV xn,.str xm,SL xz xt (xl.map Xp.row),SL bz bt (body.map Sp.row),SL ez et (els.map Sp.row)] 100 0 0])/\R=((A9&&(A10))&&(B1&&B2))) (fun k' hk=>?_) ?_
 .cases hn:Fe op
  .rw[hn,if_neg AE]at h8;rw[<-h8]at qj;cases A8
   .subst hR;simp only[go_sem,Bc,Ba];refine Ab qj AB ?_;simp only[go_sem,Bc,Ba];exact Ae rfl rfl
   .simp only[go_sem,Bc,Ba];refine Ab qj AB ?_;simp only[go_sem,Bc,Ba];exact hk _ _ ⟨⟨rfl,rfl⟩,by grind⟩
  .rw[hn,if_pos rfl]at h8;rw[<-h8]at he;cases A8
   .subst hR;simp only[go_sem,Bc,Ba];refine Ab he AB ?_;simp only[go_sem,Bc,Ba];exact Ae rfl rfl
   .simp only[go_sem,Bc,Ba];refine Ab he AB ?_;simp only[go_sem,Bc,Ba];exact hk _ _ ⟨⟨rfl,rfl⟩,by grind⟩
 clear hR;rintro e σ ⟨⟨rfl,rfl⟩,hR⟩;refine Ge (fun e σ=>e=[(1,.ptr 0 0 0),(5,.bool (B6 op))]/\σ=[.row [iV op,iV line,.str nm,.str arg,SL iz it (idx.map Xp.row),iV xo,iV xn,.str xm,SL xz xt (xl.map Xp.row),SL bz bt (body.map Sp.row),SL ez et (els.map Sp.row)] 100 0 0]) (fun k' hk=>?_) ?_
 .unfold B6 at hk;by_cases g1:2<=op
  .have f1:((2:Int)<=op)=True:=eq_true g1;rw[decide_eq_true g1]at hk;by_cases g2:op<=8
   .have f2:(op<=8)=True:=eq_true g2;rw[decide_eq_true g2]at hk;simp only[go_sem,f1,f2,ge_iff_le];exact hk _ _ ⟨rfl,rfl⟩
   .have f2:(op<=8)=False:=eq_false g2;rw[decide_eq_false g2]at hk;simp only[go_sem,f1,f2,ge_iff_le];exact hk _ _ ⟨rfl,rfl⟩
  .have f1:((2:Int)<=op)=False:=eq_false g1;rw[decide_eq_false g1]at hk;simp only[go_sem,f1,ge_iff_le];exact hk _ _ ⟨rfl,rfl⟩
 rintro e σ ⟨rfl,rfl⟩;refine Ge (fun e σ=>(e=[(1,.ptr 0 0 0)]/\σ=[.row [iV op,iV line,.str nm,.str arg,SL iz it (idx.map Xp.row),iV xo,iV xn,.str xm,SL xz xt (xl.map Xp.row),SL bz bt (body.map Sp.row),SL ez et (els.map Sp.row)] 100 0 0])/\R=(B1&&B2)) (fun k' hk=>?_) ?_
 .have e1:((0:Int)<(body.length:Int))=(body.isEmpty=false):=by
   cases body with
   | nil=>simp
   | cons x r=>simp
  have e2:((0:Int)<(els.length:Int))=(els.isEmpty=false):=by
   cases els with
   | nil=>simp
   | cons x r=>simp
  rw[h9,qB]at hR
  cases hn:B6 op<;>cases hbe:body.isEmpty
  .rw[hn,hbe]at hR;subst hR;simp only[go_sem,Bc,Ba,qi,e1,hbe,gt_iff_lt,decide_true];exact Ae rfl rfl
  all_goals
   rw[hn,hbe]at hR
   cases q2:(op==2)<;>cases hee:els.isEmpty
   .rw[q2,hee]at hR;subst hR;simp only[go_sem,Bc,Ba,qi,qm,e1,e2,hbe,hee,q2,bne,gt_iff_lt,decide_true];exact Ae rfl rfl
   all_goals
    rw[q2,hee]at hR;simp only[go_sem,Bc,Ba,qi,qm,e1,e2,hbe,hee,q2,bne,gt_iff_lt,decide_true];exact hk _ _ ⟨⟨rfl,rfl⟩,by grind⟩
 clear hR;rintro e σ ⟨⟨rfl,rfl⟩,hR⟩;cases B1
 .subst hR;simp only[go_sem];refine Ab hb AB ?_;simp only[go_sem];exact Ae rfl rfl
 .cases B2
  .subst hR;simp only[go_sem];refine Ab hb AB ?_;simp only[go_sem];refine Ab hs AB ?_;simp only[go_sem];exact Ae rfl rfl
  .subst hR;simp only[go_sem];refine Ab hb AB ?_;simp only[go_sem];refine Ab hs AB ?_;simp only[go_sem];exact Ae rfl rfl
def Ah9(z:Bool)(t:Nat)(l:List Sp)(hl:l.length<=1000000000)(ih:∀ y∈l,Fn TT PT 154 [.agg y.row] (.bool (O5 y))):Fn TT PT 118 [SL z t (l.map Sp.row)] (.bool (Lb l)):=by
 have qc:(l.map Sp.row).length=l.length:=Av ..;rw[Ar5];obtain⟨R,hR⟩:∃ b,b=l.all O5:=⟨_,rfl⟩;rw[<-hR];refine Bg T118 rfl ?_;simp only[go_sem];refine Bb (α:=Nat) (fun i=>l.length - i) (fun i=>[(0,SL z t (l.map Sp.row)),(3,iV (i:Int))]) (fun _=>[]) (fun i=>i<=l.length/\l.all O5=(l.drop i).all O5) ?_ 0 ⟨As _,rfl⟩;rintro i ⟨hi,qe⟩ jh;refine Ay Bf3 ?_;by_cases hc:i<l.length
 .have f1:((i:Int)<(l.length:Int))=True:=eq_true AA;have qw:=Aw (show i<9223372036854775807 by omega);obtain⟨a,ha⟩:∃ a,l[i]?=some a:=⟨_,Cb hc⟩;have qq:=He a;have hf:=ih a (Hg ha);have ql:(l.map Sp.row)[i]?=some a.row:=by rw[Ak,ha,I9]
  have qu:l.drop i=a::l.drop (i+1):=by rw[Ib hc,(An.1 ha).2]
  have qz:=N5 a;rw[qu,B5]at qe;generalize a.row=ar at ql hf qq qz;have qC:ar.take 11=ar:=Ky AA;cases hab:O5 a
  .rw[hab]at hf qe;rw[qe]at hR;subst hR;simp only[go_sem,qc,f1,ql,qz,qC];refine Ab hf (by grind) ?_;simp only[go_sem];exact Ae rfl rfl
  .rw[hab]at hf qe;simp only[go_sem,qc,f1,ql,qz,qC];refine Ab hf (by grind) ?_;simp only[go_sem,qw];exact Ai (jh (i+1) AA ⟨hc,by grind⟩) rfl
 .have f1:((i:Int)<(l.length:Int))=False:=eq_false AA;rw[qe,D4 AA]at hR;subst hR;simp only[go_sem,qc,f1];exact Ae rfl rfl
def Akx:∀ (N:Nat) (s:Sp),C6 s.row<=N->N<=1000000000->Fn TT PT 154 [.agg s.row] (.bool (O5 s))
 | 0,s,h,_=>by rw[Ng]at h;omega
 | N+1,s,h,hN=>by
  have h1:=Ng s;have h2:=Lf (f:=Xp.row) (fun x=>by grind[Ha]) s.idx;have h3:=Lf (f:=Sp.row) (fun x=>by grind[Ng]) s.body;have h4:=Lf (f:=Sp.row) (fun x=>by grind[Ng]) s.els;have h5:=Lf (f:=Xp.row) (fun x=>by grind[Ha]) s.ex.l;have h6:=Ha s.ex;refine A7b s (fun x hx=>Aeq N x ?_ AA) (Aeq N s.ex AA AA) AA AA AA AA (Ah9 _ _ _ AA fun y hy=>Akx N y ?_ AA) (Ah9 _ _ _ AA fun y hy=>Akx N y ?_ AA)
  .grind[Jy]
  .grind[Jy]
  grind[Jy]
set_option maxHeartbeats 1000000 in
def Bgy(d:Dp):Fn TT PT 117 [.agg d.row] (.bool (Vd d)):=by
 obtain⟨kind,line,nm,size,init,on⟩:=d;obtain⟨R,hR⟩:∃ b,b=Vd ⟨kind,line,nm,size,init,on⟩:=⟨_,rfl⟩;rw[<-hR];unfold Vd at hR;simp only at hR;have qg:=Rt nm;have qx:=Rt on;refine Bg T117 rfl ?_;unfold Dp.row;simp only;obtain⟨A3,h3⟩:∃ b,b=B3 nm:=⟨_,rfl⟩;obtain⟨A6,h6⟩:∃ b,b=(if kind=5 then B3 on else on==[]):=⟨_,rfl⟩;obtain⟨A7,h7⟩:∃ b,b=(decide (-9223372036854775808<init)&&(init==0||(kind==1||kind==2))):=⟨_,rfl⟩;rw[<-h3,<-h6,<-h7]at hR;rw[<-h3]at qg;refine Ge (fun e σ=>e=[(1,.ptr 0 0 0)]/\σ=[.row [iV kind,iV line,.str nm,iV size,iV init,.str on] 82 0 0]) (fun k' hk=>?_) ?_
 .simp only[go_sem];exact hk _ _ ⟨rfl,rfl⟩
 rintro e σ ⟨rfl,rfl⟩;refine Ge (fun e σ=>(e=[(1,.ptr 0 0 0)]/\σ=[.row [iV kind,iV line,.str nm,iV size,iV init,.str on] 82 0 0])/\R=(A6&&A7)) (fun k' hk=>?_) ?_
 .by_cases g1:kind<1
  .rw[decide_eq_false (show ¬ 1<=kind by omega)]at hR;subst hR;have f1:(kind<1)=True:=eq_true g1;simp only[go_sem,f1];exact Ae rfl rfl
  have f1:(kind<1)=False:=eq_false g1;rw[decide_eq_true (show 1<=kind by omega)]at hR;by_cases g2:6<kind
  .rw[decide_eq_false (show ¬ kind<=6 by omega)]at hR;subst hR;have f2:((6:Int)<kind)=True:=eq_true g2;simp only[go_sem,f1,f2,gt_iff_lt];exact Ae rfl rfl
  have f2:((6:Int)<kind)=False:=eq_false g2;rw[decide_eq_true (show kind<=6 by omega)]at hR;cases A3
  .subst hR;simp only[go_sem,f1,f2,gt_iff_lt];refine Ab qg rfl ?_;simp only[go_sem,Bc];exact Ae rfl rfl
  by_cases g4:size<0
  .rw[decide_eq_false (show ¬ 0<=size by omega)]at hR;subst hR;have f4:(size<0)=True:=eq_true g4;simp only[go_sem,f1,f2,gt_iff_lt];refine Ab qg rfl ?_;simp only[go_sem,f4,Ba];exact Ae rfl rfl
  have f4:(size<0)=False:=eq_false g4;rw[decide_eq_true (show 0<=size by omega)]at hR
  cases q1:(kind==1)<;>cases q5:(size==0)
  .rw[q1,q5]at hR;subst hR;simp only[go_sem,f1,f2,gt_iff_lt];refine Ab qg rfl ?_;simp only[go_sem,f4,Ba,Bc,bne,q1,q5];exact Ae rfl rfl
  all_goals
   rw[q1,q5]at hR;simp only[go_sem,f1,f2,gt_iff_lt];refine Ab qg rfl ?_;simp only[go_sem,f4,Ba,Bc,bne,q1,q5];exact hk _ _ ⟨⟨rfl,rfl⟩,by grind⟩
 clear hR;rintro e σ ⟨⟨rfl,rfl⟩,hR⟩;refine Ge (fun e σ=>(e=[(1,.ptr 0 0 0)]/\σ=[.row [iV kind,iV line,.str nm,iV size,iV init,.str on] 82 0 0])/\R=A7) (fun k' hk=>?_) ?_
 .by_cases h5:kind=5
  .rw[if_pos h5]at h6;have q5:(kind==5)=true:=by simp[h5]
   rw[<-h6]at qx;cases A6
   .subst hR;simp only[go_sem,q5,bne,Ba,Bc];refine Ab qx rfl ?_;simp only[go_sem,Bc];exact Ae rfl rfl
   .simp only[go_sem,q5,bne,Ba,Bc];refine Ab qx rfl ?_;simp only[go_sem,q5,bne,Ba,Bc];exact hk _ _ ⟨⟨rfl,rfl⟩,by grind⟩
  .rw[if_neg h5]at h6;have h6:=h6.symm;have q5:(kind==5)=false:=by simp[h5]
   cases A6
   .subst hR;simp only[go_sem,q5,h6,bne,Ba,Bc];exact Ae rfl rfl
   .simp only[go_sem,q5,h6,bne,Ba,Bc];exact hk _ _ ⟨⟨rfl,rfl⟩,by grind⟩
 clear hR;rintro e σ ⟨⟨rfl,rfl⟩,hR⟩;rw[h7]at hR;by_cases g7 : -9223372036854775808<init
 .have f7:((-9223372036854775808:Int)<init)=True:=eq_true g7;rw[decide_eq_true g7]at hR
  cases q0:(init==0)<;>cases q1:(kind==1)<;>cases q2:(kind==2)
  all_goals
   rw[q0,q1,q2]at hR;subst hR;simp only[go_sem,f7,q0,q1,q2,gt_iff_lt];exact Ae rfl rfl
 .have f7:((-9223372036854775808:Int)<init)=False:=eq_false g7;rw[decide_eq_false g7]at hR;subst hR;simp only[go_sem,f7,gt_iff_lt];exact Ae rfl rfl
def Bx{α:Type}(p:α->Bool):List α->Int
 | [] => -1
 | a::l=>if p a then 0 else if Bx p l<0 then -1 else Bx p l+1
def Adx{α:Type}(p:α->Bool):∀ l:List α,-1<=Bx p l/\Bx p l<l.length
 | []=>by simp[Bx]
 | a::l=>by
  have:=Adx p l
  grind[Bx]
def Ady{α:Type}{p:α->Bool}:∀ {l:List α} {i:Nat} {a:α},(∀ b∈l.take i,p b=false)->l[i]?=some a->p a=true->Bx p l=i
 | [],i,a,_,h,_=>by simp at h
 | b::l,0,a,_,h,hp=>by
  grind[Bx]
 | b::l,i+1,a,hn,h,hp=>by
  have h1:=Ady (l:=l) (i:=i) (a:=a) (fun c hc=>hn c (by simp[hc])) (by grind) hp
  grind[Bx]
def Ade{α:Type}{p:α->Bool}:∀ {l:List α},(∀ b∈l,p b=false)->Bx p l = -1
 | [],_=>rfl
 | b::l,h=>by
  simp only[Bx,h b AE,Ade (l:=l) fun c hc=>h c (by simp[hc])];simp
def Adz{α:Type}{p:α->Bool}{l:List α}(h:0<=Bx p l):∃ (i:Nat) (a:α),Bx p l=i/\l[i]?=some a/\i<l.length:=by
 have h2:=(Adx p l).2;obtain⟨i,hi⟩:∃ i:Nat,Bx p l=i:=⟨(Bx p l).toNat,by omega⟩;exact⟨i,l[i]' AA,hi,Cb AA,by omega⟩
def Aia{α:Type}{p:α->Bool}{l:List α}{i:Nat}{a:α}(h:∀ b∈l.take i,p b=false)(ha:l[i]?=some a)(hp:p a=false):∀ b∈l.take (i+1),p b=false:=by
 grind[List.take_succ]
def Ws(z:Bool)(t:Nat)(l:List (List UInt8))(s:List UInt8)(hl:l.length<=9223372036854775806):Fn TT PT 121 [SL z t (l.map fun x=>[V.str x]),.str s] (iV (Bx (·==s) l)):=by
 have n1:(l.map fun x=>[V.str x]).length=l.length:=Av ..;refine Bg T121 rfl ?_;simp only[go_sem];refine Bb (α:=Nat) (fun i=>l.length - i) (fun i=>[(0,SL z t (l.map fun x=>[V.str x])),(1,.str s),(5,iV (i:Int))]) (fun _=>[]) (fun i=>i<=l.length/\∀ b∈l.take i,(b==s)=false) ?_ 0 ⟨As _,by simp⟩;rintro i ⟨hi,hc⟩ ih;refine Ay Bf6 ?_;rcases Az i l.length with h' | h'
 .obtain⟨x,hx,-,-⟩:=Bk h';cases hp:(x==s)
  .simp only[go_sem,n1,Aq h',Ak,hx,hp,Aw (show i<9223372036854775807 by omega)];exact Ai (ih (i+1) AA ⟨h',Aia hc hx hp⟩) rfl
  .rw[Ady hc hx hp];simp only[go_sem,n1,Aq h',Ak,hx,hp];exact Ae rfl rfl
 .rw[Ky h']at hc;rw[Ade hc];simp only[go_sem,n1,Bj h'];exact Ae rfl rfl
def Wt(z:Bool)(t:Nat)(l:List Dp)(s:List UInt8)(hl:l.length<=9223372036854775806):Fn TT PT 119 [SL z t (l.map Dp.row),.str s] (iV (Bx (fun d:Dp=>d.nm==s) l)):=by
 have n1:(l.map Dp.row).length=l.length:=Av ..;refine Bg T119 rfl ?_;simp only[go_sem];refine Bb (α:=Nat) (fun i=>l.length - i) (fun i=>[(0,SL z t (l.map Dp.row)),(1,.str s),(5,iV (i:Int))]) (fun _=>[]) (fun i=>i<=l.length/\∀ b∈l.take i,(b.nm==s)=false) ?_ 0 ⟨As _,by simp⟩;rintro i ⟨hi,hc⟩ ih;refine Ay Bf4 ?_;rcases Az i l.length with h' | h'
 .obtain⟨x,hx,-,-⟩:=Bk h';have qd:x.row=[iV x.kind,iV x.line,.str x.nm,iV x.size,iV x.init,.str x.on]:=rfl;cases hp:(x.nm==s)
  .simp only[go_sem,n1,Aq h',Ak,hx,qd,hp,Aw (show i<9223372036854775807 by omega)];exact Ai (ih (i+1) AA ⟨h',Aia (p:=fun d:Dp=>d.nm==s) hc hx hp⟩) rfl
  .rw[Ady (p:=fun d:Dp=>d.nm==s) hc hx hp];simp only[go_sem,n1,Aq h',Ak,hx,qd,hp];exact Ae rfl rfl
 .rw[Ky h']at hc;rw[Ade hc];simp only[go_sem,n1,Bj h'];exact Ae rfl rfl
def Aer(z:Bool)(t:Nat)(l:List Tp)(s:List UInt8)(hl:l.length<=9223372036854775806):Fn TT PT 120 [SL z t (l.map Tp.row),.str s] (iV (Bx (fun d:Tp=>d.nm==s) l)):=by
 have n1:(l.map Tp.row).length=l.length:=Av ..;refine Bg T120 rfl ?_;simp only[go_sem];refine Bb (α:=Nat) (fun i=>l.length - i) (fun i=>[(0,SL z t (l.map Tp.row)),(1,.str s),(5,iV (i:Int))]) (fun _=>[]) (fun i=>i<=l.length/\∀ b∈l.take i,(b.nm==s)=false) ?_ 0 ⟨As _,by simp⟩;rintro i ⟨hi,hc⟩ ih;refine Ay Bf5 ?_;rcases Az i l.length with h' | h'
 .obtain⟨x,hx,-,-⟩:=Bk h';have qd:x.row=(tR x):=rfl;cases hp:(x.nm==s)
  .simp only[go_sem,n1,Aq h',Ak,hx,qd,hp,Aw (show i<9223372036854775807 by omega)];exact Ai (ih (i+1) AA ⟨h',Aia (p:=fun d:Tp=>d.nm==s) hc hx hp⟩) rfl
  .rw[Ady (p:=fun d:Tp=>d.nm==s) hc hx hp];simp only[go_sem,n1,Aq h',Ak,hx,qd,hp];exact Ae rfl rfl
 .rw[Ky h']at hc;rw[Ade hc];simp only[go_sem,n1,Bj h'];exact Ae rfl rfl
structure LnG (p:Gp):Prop where
 d:p.decls.length<=1000000000
 t:p.thrs.length<=1000000000
 l:∀ t∈p.thrs,t.locals.length<=1000000000
def Aws{α:Type}{p:α->Bool}{l:List α}(h:¬ 0<=Bx p l):Bx p l = -1:=by
 have:=Adx p l;omega
def Afr(x:Gp):x.row.all V.rowB=true:=by
 grind[Gp.row,Hq]
def Bbw{a b:V}(h:[a,b].all V.rowB=true):a.cellB=true/\b.cellB=true:=by
 have h:=Uk h
 grind
def U1(x:Gp):x.row=(gR x):=rfl
def Om{R:V->Prop}{f p:Nat}{res:List AR}{body:AC}{vs:List V}(hT:TT f=some ⟨p,res,false,body,none⟩)(hl:vs.length=p)(h:W TT PT [.c body] (C7 0 vs) [] (Hd fun e' σ1=>∃ v,Ca e' σ1 res=some v/\(Cd v=true/\v.refs=[]/\Eg [] v=some v)/\R v)):∃ v,Fn TT PT f vs v/\R v:=by
 obtain⟨e',σ',hE,v,hr,h1,h2⟩:=h;exact⟨v,Aq3 hT rfl rfl hl ⟨e',σ',hE,v,hr,h1⟩,h2⟩
set_option maxHeartbeats 1000000 in
def Bbx{p:Gp}(hp:LnG p)(th:Int)(s:List UInt8):∃ v,Fn TT PT 188 [.agg p.row,iV th,.str s] v/\∃ k:Int,v=iV k/\(k=5->0<=Bx (fun d:Dp=>d.nm==s) p.decls):=by
 obtain⟨dz,dt,decls,tz,tt,thrs⟩:=p;obtain⟨h1,h2,h3⟩:=hp;simp only at h1 h2 h3 ⊢;unfold Gp.row;simp only;have n1:(decls.map Dp.row).length=decls.length:=Av ..;have n2:(thrs.map Tp.row).length=thrs.length:=Av ..;have hd:=Wt dz dt decls s AA;have ht:=Aer tz tt thrs s AA;refine Om T188 rfl ?_;refine Ge (fun e σ=>e=[(1,iV th),(2,.str s),(3,.ptr 0 0 0)]/\σ=[.row [SL dz dt (decls.map Dp.row),SL tz tt (thrs.map Tp.row)] 34 0 0]) (fun k' hk=>?_) ?_
 .simp only[go_sem];exact hk _ _ ⟨rfl,rfl⟩
 rintro e σ ⟨rfl,rfl⟩;refine Ge (fun e σ=>e=[(2,.str s),(3,.ptr 0 0 0)]/\σ=[.row [SL dz dt (decls.map Dp.row),SL tz tt (thrs.map Tp.row)] 34 0 0]) (fun k' hk=>?_) ?_
 .by_cases c1:0<=th
  .have f1:((0:Int)<=th)=True:=eq_true c1;by_cases c2:th<thrs.length
   .obtain⟨i,rfl⟩:∃ i:Nat,th=i:=⟨th.toNat,by omega⟩;have f2:((i:Int)<(thrs.length:Int))=True:=eq_true c2;obtain⟨x,hx,-,hm⟩:=Bk (l:=thrs) (i:=i) AA;have qd:x.row=(tR x):=rfl;have ha:=Ws x.lz x.lt x.locals s (by grind);simp only[go_sem,f1,f2,n2,Ak,hx,qd,ge_iff_le];refine Ab ha AB ?_;by_cases c3:0<=Bx (·==s) x.locals
    .have f3:(0<=Bx (·==s) x.locals)=True:=eq_true c3;simp only[go_sem,f3,ge_iff_le];exact⟨_,rfl,⟨rfl,rfl,rfl⟩,8,rfl,by omega⟩
    .have f3:(0<=Bx (·==s) x.locals)=False:=eq_false c3;simp only[go_sem,f3,ge_iff_le];exact hk _ _ ⟨rfl,rfl⟩
   .have f2:(th<(thrs.length:Int))=False:=eq_false c2;simp only[go_sem,f1,f2,n2,ge_iff_le];exact hk _ _ ⟨rfl,rfl⟩
  .have f1:((0:Int)<=th)=False:=eq_false c1;simp only[go_sem,f1,ge_iff_le];exact hk _ _ ⟨rfl,rfl⟩
 rintro e σ ⟨rfl,rfl⟩;by_cases c:0<=Bx (fun d:Dp=>d.nm==s) decls
 .obtain⟨i,x,e,hx,hi⟩:=Adz c;rw[e]at hd;have f1:((i:Int)<0)=False:=eq_false AA;have qd:x.row=[iV x.kind,iV x.line,.str x.nm,iV x.size,iV x.init,.str x.on]:=rfl;simp only[go_sem];refine Ab hd AB ?_;by_cases k1:x.kind=1
  .have q1:(x.kind==1)=true:=by simp[k1]
   cases q5:(x.size==0)
   .simp only[go_sem,f1,Ak,hx,qd,q1,q5,bne,Bc];exact⟨_,rfl,⟨rfl,rfl,rfl⟩,2,rfl,by omega⟩
   .simp only[go_sem,f1,Ak,hx,qd,q1,q5,bne,Ba];exact⟨_,rfl,⟨rfl,rfl,rfl⟩,1,rfl,by omega⟩
  have q1:(x.kind==1)=false:=by simp[k1]
  cases q2:(x.kind==2);rotate_left
  .simp only[go_sem,f1,Ak,hx,qd,q1,q2];exact⟨_,rfl,⟨rfl,rfl,rfl⟩,1,rfl,by omega⟩
  cases q3:(x.kind==3);rotate_left
  .simp only[go_sem,f1,Ak,hx,qd,q1,q2,q3];exact⟨_,rfl,⟨rfl,rfl,rfl⟩,_,rfl,fun _=>c⟩
  cases q4:(x.kind==4);rotate_left
  .simp only[go_sem,f1,Ak,hx,qd,q1,q2,q3,q4];exact⟨_,rfl,⟨rfl,rfl,rfl⟩,_,rfl,fun _=>c⟩
  cases q5:(x.kind==5);rotate_left
  .simp only[go_sem,f1,Ak,hx,qd,q1,q2,q3,q4,q5];exact⟨_,rfl,⟨rfl,rfl,rfl⟩,_,rfl,fun _=>c⟩
  cases q6:(x.kind==6)
  .simp only[go_sem,f1,Ak,hx,qd,q1,q2,q3,q4,q5,q6];exact⟨_,rfl,⟨rfl,rfl,rfl⟩,_,rfl,fun _=>c⟩
  .simp only[go_sem,f1,Ak,hx,qd,q1,q2,q3,q4,q5,q6];exact⟨_,rfl,⟨rfl,rfl,rfl⟩,_,rfl,fun _=>c⟩
 .rw[Aws c]at hd;simp only[go_sem];refine Ab hd AB ?_;simp only[go_sem,Int.reduceLT,Int.reduceNeg];refine Ab ht AB ?_;by_cases c3:0<=Bx (fun d:Tp=>d.nm==s) thrs
  .have f3:(0<=Bx (fun d:Tp=>d.nm==s) thrs)=True:=eq_true c3;simp only[go_sem,f3,ge_iff_le];exact⟨_,rfl,⟨rfl,rfl,rfl⟩,7,rfl,by omega⟩
  .have f3:(0<=Bx (fun d:Tp=>d.nm==s) thrs)=False:=eq_false c3;simp only[go_sem,f3,ge_iff_le];exact⟨_,rfl,⟨rfl,rfl,rfl⟩,0,rfl,by omega⟩
def Of{p:Gp}(hp:LnG p)(th:Int)(s:List UInt8)(a b:Int):∃ v,Fn TT PT 157 [.agg p.row,iV th,.str s,iV a,iV b] v/\∃ e:Int,v=iV e/\(a=5->b=5->e=0->0<=Bx (fun d:Dp=>d.nm==s) p.decls):=by
 obtain⟨_,hk,k,rfl,h5⟩:=Bbx hp th s;rw[U1]at hk ⊢;refine Om T157 rfl ?_;simp only[go_sem];refine Ab hk AB ?_;by_cases k0:k=0
 .have q0:(k==0)=true:=by simp[k0]
  simp only[go_sem,q0];exact⟨_,rfl,⟨rfl,rfl,rfl⟩,5,rfl,by omega⟩
 have q0:(k==0)=false:=by simp[k0]
 by_cases ka:k=a
 .have qa:(k==a)=true:=by simp[ka]
  simp only[go_sem,q0,qa,bne,Ba];exact⟨_,rfl,⟨rfl,rfl,rfl⟩,0,rfl,fun e _ _=>h5 AA⟩
 have qa:(k==a)=false:=by simp[ka]
 by_cases kb:k=b
 .have qb:(k==b)=true:=by simp[kb]
  simp only[go_sem,q0,qa,qb,bne,Ba,Bc];exact⟨_,rfl,⟨rfl,rfl,rfl⟩,0,rfl,fun _ e _=>h5 AA⟩
 have qb:(k==b)=false:=by simp[kb]
 simp only[go_sem,q0,qa,qb,bne,Ba,Bc];exact⟨_,rfl,⟨rfl,rfl,rfl⟩,6,rfl,by omega⟩
def Ar6:∀ (N:Nat) (x:Xp),C6 x.row<=N->N<=1000000000->∃ v,Fn TT PT 189 [.agg x.row] v/\∃ n d:Int,v=.tup [iV n,iV d]
 | 0,x,h,_=>by grind[Ha]
 | N+1,x,h,hN=>by
  have h1:=Ha x;have h2:=Lf (f:=Xp.row) (fun x=>by grind[Ha]) x.l;have qc:(x.l.map Xp.row).length=x.l.length:=Av ..;have hx:=Dy x;rw[Bi]at hx ⊢;refine Om T189 rfl ?_;simp only[go_sem];refine Bb (α:=Nat × Int × Int) (fun a=>x.l.length - a.1) (fun a=>[(1,.ptr 0 0 0),(4,iV a.2.1),(5,iV a.2.2),(6,iV (a.1:Int))]) (fun _=>[xO x]) (fun a=>a.1<=x.l.length) ?_ (0,1,0) (As _);rintro⟨i,n,d⟩ hi ih;simp only at hi ih;refine Ay Bge ?_;rcases Az i x.l.length with h' | h'
  .obtain⟨y,hy,-,hm⟩:=Bk h';have hb:=Jy (f:=Xp.row) hm;obtain⟨_,hf,n',d',rfl⟩:=Ar6 N y AA AA;have qA:=Dy y;have qs:=Bi y;rw[qs]at hf qA;simp only[go_sem,qc,Aq h',Ak,hy,qs];refine Ab hf (by grind) ?_;simp only[go_sem,Aw (show i<9223372036854775807 by omega)];exact Ai (ih (i+1,IntKind.i64.wrap (n+n'),max d d') AA h') rfl
  .simp only[go_sem,qc,Bj h'];exact⟨_,rfl,⟨rfl,rfl,rfl⟩,_,_,rfl⟩
def Ar7{p:Gp}(hp:LnG p)(th:Int):∀ (N:Nat) (x:Xp),C6 x.row<=N->N<=1000000000->∃ v,Fn TT PT 190 [.agg p.row,iV th,.agg x.row] v/\∃ r:Int,v=iV r
 | 0,x,h,_=>by grind[Ha]
 | N+1,x,h,hN=>by
  have h1:=Ha x;have h2:=Lf (f:=Xp.row) (fun x=>by grind[Ha]) x.l;have qc:(x.l.map Xp.row).length=x.l.length:=Av ..;have hx:=Dy x;have ih:∀ y∈x.l,∃ v,Fn TT PT 190 [.agg p.row,iV th,.agg y.row] v/\∃ r:Int,v=iV r:=fun y hy=>Ar7 hp th N y (by grind[Jy]) AA
  obtain⟨_,w1,r1,rfl,-⟩:=Of hp th x.nm 8 1;obtain⟨_,w2,r2,rfl,-⟩:=Of hp th x.nm 2 2;rw[Bi]at hx ⊢;have qy:=Afr p;rw[U1]at ih w1 w2 qy ⊢;refine Om T190 rfl ?_;refine Ge (fun e σ=>e=[(1,iV th),(3,.ptr 0 0 0),(5,.ptr 1 0 0)]/\σ=[gO p,xO x]) (fun k' hk=>?_) ?_
  .simp only[go_sem];exact hk _ _ ⟨rfl,rfl⟩
  rintro e σ ⟨rfl,rfl⟩;refine Ge (fun e σ=>e=[(1,iV th),(3,.ptr 0 0 0),(5,.ptr 1 0 0),(7,iV 0)]/\σ=[gO p,xO x]) (fun k' hk=>?_) ?_
  .simp only[go_sem];exact hk _ _ ⟨rfl,rfl⟩
  rintro e σ ⟨rfl,rfl⟩;refine Ge (fun e σ=>∃ (r:Int) (X:V),(e=[(1,iV th),(3,.ptr 0 0 0),(5,.ptr 1 0 0),(7,iV r)]\/e=[(1,iV th),(3,.ptr 0 0 0),(5,.ptr 1 0 0),(7,iV r),(10,X)])/\σ=[gO p,xO x]) (fun k' hk=>?_) ?_
  .by_cases o2:x.op=2
   .have q2:(x.op==2)=true:=by simp[o2]
    simp only[go_sem,q2];refine Ab w1 AB ?_;simp only[go_sem];exact hk _ _ ⟨_,_,.inr rfl,rfl⟩
   have q2:(x.op==2)=false:=by simp[o2]
   by_cases o3:x.op=3
   .have q3:(x.op==3)=true:=by simp[o3]
    simp only[go_sem,q2,q3];refine Ab w2 AB ?_;simp only[go_sem];exact hk _ _ ⟨_,.und,.inl rfl,rfl⟩
   have q3:(x.op==3)=false:=by simp[o3]
   simp only[go_sem,q2,q3];exact hk _ _ ⟨_,.und,.inl rfl,rfl⟩
  rintro e σ ⟨r,X,he,rfl⟩;rcases he with rfl | rfl
  all_goals
   simp only[go_sem];refine Bb (α:=Nat × Int) (fun a=>x.l.length - a.1) (fun a=>[(1,iV th),(3,.ptr 0 0 0),(5,.ptr 1 0 0),(7,iV a.2),(8,iV (a.1:Int))]) (fun _=>[gO p,xO x]) (fun a=>a.1<=x.l.length) ?_ (0,r) (As _);rintro⟨i,r⟩ hi jh;simp only at hi jh;refine Ay Bgf ?_;rcases Az i x.l.length with h' | h'
   .cases r0:(r==0)
    .simp only[go_sem,qc,Aq h',r0];exact⟨_,rfl,⟨rfl,rfl,rfl⟩,_,rfl⟩
    .obtain⟨y,hy,-,hm⟩:=Bk h';obtain⟨_,hf,r',rfl⟩:=ih y hm;have qA:=Dy y;have qs:=Bi y;rw[qs]at hf qA;simp only[go_sem,qc,Aq h',r0];refine Ad AD ?_;simp only[go_sem,qc,Ak,hy,qs];refine Ax hf AB ?_;simp only[go_sem,Aw (show i<9223372036854775807 by omega)];exact Ai (jh (i+1,r') AA h') rfl
   .simp only[go_sem,qc,Bj h'];exact⟨_,rfl,⟨rfl,rfl,rfl⟩,_,rfl⟩
def Ar8{p:Gp}(hp:LnG p)(th:Int)(x:Xp)(h:C6 x.row<=1000000000):∃ v,Fn TT PT 158 [.agg p.row,iV th,.agg x.row] v/\∃ r:Int,v=iV r:=by
 have hs:=Aeq _ x h (Am _);obtain⟨_,hn,n,d,rfl⟩:=Ar6 _ x h (Am _);obtain⟨_,hm,r,rfl⟩:=Ar7 hp th _ x h (Am _);have hx:=Dy x;have qy:=Afr p;rw[Bi]at hx hs hn hm ⊢;rw[U1]at hm qy ⊢;refine Om T158 rfl ?_;cases b:Hx x
 .rw[b]at hs;simp only[go_sem];refine Ab hs (by grind) ?_;simp only[go_sem,Bc];exact⟨_,rfl,⟨rfl,rfl,rfl⟩,_,rfl⟩
 rw[b]at hs;simp only[go_sem];refine Ab hs (by grind) ?_;simp only[go_sem,Ba];refine Ab hn (by grind) ?_;by_cases c1:24<n
 .have f1:((24:Int)<n)=True:=eq_true c1;simp only[go_sem,gt_iff_lt,f1];exact⟨_,rfl,⟨rfl,rfl,rfl⟩,_,rfl⟩
 have f1:((24:Int)<n)=False:=eq_false c1;by_cases c2:6<d
 .have f2:((6:Int)<d)=True:=eq_true c2;simp only[go_sem,gt_iff_lt,f1,f2];exact⟨_,rfl,⟨rfl,rfl,rfl⟩,_,rfl⟩
 have f2:((6:Int)<d)=False:=eq_false c2;simp only[go_sem,gt_iff_lt,f1,f2];refine Ab hm AB ?_;simp only[go_sem];exact⟨_,rfl,⟨rfl,rfl,rfl⟩,_,rfl⟩
def Ho(b:Bool):∃ v,Fn TT PT 159 [.bool b] v/\∃ r:Int,v=iV r:=by
 refine Om T159 rfl ?_;cases b
 .simp only[go_sem];exact⟨_,rfl,⟨rfl,rfl,rfl⟩,_,rfl⟩
 .simp only[go_sem];exact⟨_,rfl,⟨rfl,rfl,rfl⟩,_,rfl⟩
def Hb(a b:Int):∃ v,Fn TT PT 156 [iV a,iV b] v/\∃ r:Int,v=iV r:=by
 refine Om T156 rfl ?_;cases h:(a==0)
 .simp only[go_sem,bne,h,Bc];exact⟨_,rfl,⟨rfl,rfl,rfl⟩,_,rfl⟩
 .simp only[go_sem,bne,h,Ba];exact⟨_,rfl,⟨rfl,rfl,rfl⟩,_,rfl⟩
def Ai0:∀ (N:Nat) (z:Bool) (t:Nat) (l:List Sp),Cx (l.map Sp.row)<=N->N<=1000000000->∃ v,Fn TT PT 74 [SL z t (l.map Sp.row)] v/\∃ n:Int,v=iV n
 | N,z,t,l,h,hN=>by
  have h2:=Lf (f:=Sp.row) (fun x=>by grind[Ng]) l;have qc:(l.map Sp.row).length=l.length:=Av ..;refine Om T74 rfl ?_;simp only[go_sem,qc];refine Bb (α:=Nat × Int) (fun a=>l.length - a.1) (fun a=>[(0,SL z t (l.map Sp.row)),(3,iV a.2),(4,iV (a.1:Int))]) (fun _=>[]) (fun a=>a.1<=l.length) ?_ (0,_) (As _);rintro⟨i,n⟩ hi ih;simp only at hi ih;refine Ay Bll ?_;rcases Az i l.length with h' | h'
  .obtain⟨y,hy,-,hm⟩:=Bk h';have hb:=Jy (f:=Sp.row) hm;have qI:=Ng y
   cases N with
   | zero=>omega
   | succ N=>
    obtain⟨_,hf,n1,rfl⟩:=Ai0 N y.bz y.bt y.body AA AA;obtain⟨_,hg,n2,rfl⟩:=Ai0 N y.ez y.et y.els AA AA;have qd:=Fr y;simp only[go_sem,qc,Aq h'];refine Ad AD ?_;simp only[go_sem,Ak,hy,qd];refine Ax hf AB ?_;simp only[go_sem,Ak,hy,qd];refine Ax hg AB ?_;simp only[go_sem,Aw (show i<9223372036854775807 by omega)];exact Ai (ih (i+1,_) AA h') rfl
  .simp only[go_sem,qc,Bj h'];exact⟨_,rfl,⟨rfl,rfl,rfl⟩,_,rfl⟩
