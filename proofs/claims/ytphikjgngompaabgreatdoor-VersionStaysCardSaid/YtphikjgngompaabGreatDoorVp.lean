/- Walks: an entry carried over to the other version. -/
import Derived.Test.YtphikjgngompaabGreatDoorIo
set_option linter.all false
namespace Go.Proofs.YtphikjgngompaabGreatDoor.KM
open Go
def Ap5{ks:List Ak}{m:List Int}{k:Ak}:∀ l:List Ak,Ga ks m (l++[k])=(Ga ks m l).bind fun r=>(Ih ks m k).map fun n=>r++[n]
 | []=>by
  grind[Ga]
 | a::l=>by
  rw[Bq,Ga,Ga,Ap5 l]
  cases Ih ks m a with
  | none=>rfl
  | some n=>
   simp only
   cases Ga ks m l with
   | none=>rfl
   | some r=>cases Ih ks m k<;>rfl
def Aj8{ks:List Ak}{m:List Int}{b:Int}(hm:∀ x∈m,x<b):∀ {l:List Ak} {r:List Nat},Ga ks m l=some r->∀ n∈r,(n:Int)<b
 | [],r,h,n,hn=>by
  grind[Ga]
 | k::l,r,h,n,hn=>by
  rw[Ga]at h
  cases h1:Ih ks m k with
  | none=>grind
  | some n'=>
   rw[h1]at h;simp only at h
   cases h2:Ga ks m l with
   | none=>grind
   | some r'=>
    rw[h2]at h;rw[<-M5 h]at hn;rcases Bp.1 hn with rfl | hn
    .unfold Ih at h1
     split at h1
     .rename_i s hs
      split at h1
      .cases h1
      .rename_i h3
       cases h4:m[s]? with
       | none=>grind
       | some x=>
        rw[Ef,h4,Q8]at h1 h3;have:=hm x (F7 h4)
        grind
     grind
    .exact Aj8 hm h2 n hn
def Ht(K:List Ak)(M:List Int)(J:List Ak)(e:Ent):Option Ent:=(Ga K M e.sites).map fun r=>⟨e.kind,(Hs e.kind (r.map fun n:Nat=>(n:Int))).map (fun s=>J.getD s.toNat kz),e.seen,e.missed,true,0⟩
def Ao1:Option Ent->V
 | some y=>.tup [.agg y.row,.bool true]
 | none=>.tup [.agg [.int .i64 0,.nils,.int .i64 0,.int .i64 0],.bool false]
def Ak5{P:Int->Prop}{kind:Int}{L:List Int}(h:∀ x∈L,P x):∀ x∈Hs kind L,P x:=by
 unfold Hs
 split
 .grind[A4s]
 .split
  .exact Ajb (P:=fun l=>∀ x∈l,P x) (fun i x hx=>h x (A93 hx)) _ _ h
  omega
theorem Avl(kind:Int)(L:List Int):(Hs kind L).length=L.length:=by
 unfold Hs
 split
 .simp[Ajo]
 .split
  .exact Ajb (P:=fun l=>l.length=L.length) (fun i=>Aaf L i) _ _ rfl
  .rfl
inductive IntsL (s:St) (L:List Int):V->Prop
 | set {z:Bool} {t:Nat}:IntsL s L (SL z t (Bj L))
 | obj {i g e:Nat}:s[i]?=some (.row (Dx L) e g 0)->4<=i->IntsL s L (.sl i g 0 L.length 1 true)
def Ak6{s:St}{u:V}{L:List Int}(h:IntsL s L u):Nh u=some (iV (L.length:Int)):=by
 cases h with
 | set=>rw[Afz,Iv]
 | obj _ _=>grind[A0b]
def ilo{L:List Int}{e g j:Nat}{r:Int}(hr:L[j]?=some r):Mv (some (.row (Dx L) e g 0)) g 1 true j=some (iV r):=by
 have h5:(Dx L)[j]?=some (iV r):=by
  unfold Dx;rw[Au,hr];rfl
 have h6:=(Ao.1 h5).1;rw[Ag4,if_pos ⟨rfl,by omega⟩,Io h6,(Ao.1 h5).2];rfl
def Ak7{J:List Ak}{q:Gp}(gk:∀ (s:Nat) (k:Ak),J[s]?=some k->Fn TT PT 48 [.agg (gR q),iV (s:Int)] (.tup [.agg (kR k),.bool true]))
  {L:List Int} (hL:∀ x∈L,0<=x/\x<(J.length:Int)) (jL:L.length<=1000) {v:V} {s0:St} (hv:IntsL s0 L v) (h4:4<=s0.length)
  (h2:s0[2]?=some (gO q))
  {kd sn ms:Int} {k0:List It} {Q:Env->St->Prop}
  (qd:∀ (u:V) (s:St),(∀ i,i<s0.length->s[i]?=s0[i]?)->s[s0.length]?=some (.row [iV kd,u,iV sn,iV ms] 43 0 0)->GW s 3 45 (s0.length+1) u ((L.map fun x=>J.getD x.toNat kz).map A0)->W TT PT k0 [(6,.ptr 2 0 0),(8,.ptr 3 0 0),(14,.ptr s0.length 0 0),(74,v),(75,iV (L.length:Int)),(76,iV (L.length:Int))] s Q) :
  W TT PT (.l [6,8,14,74,75,76] lp20_1::.b 3::k0) [(6,.ptr 2 0 0),(8,.ptr 3 0 0),(14,.ptr s0.length 0 0),(74,v),(75,iV (L.length:Int)),(76,iV 0)] (s0++[.row [iV kd,.nils,iV sn,iV ms] 43 0 0]) Q:=by
 refine Bk (α:=Nat × V × St) (fun a=>L.length - a.1) (fun a=>[(6,.ptr 2 0 0),(8,.ptr 3 0 0),(14,.ptr s0.length 0 0),(74,v),(75,iV (L.length:Int)),(76,iV (a.1:Int))]) (fun a=>a.2.2)
  (fun a=>a.1<=L.length/\(∀ i,i<s0.length->a.2.2[i]?=s0[i]?)/\a.2.2[s0.length]?=some (.row [iV kd,a.2.1,iV sn,iV ms] 43 0 0)/\GW a.2.2 3 45 (s0.length+1) a.2.1 (((L.take a.1).map fun x=>J.getD x.toNat kz).map A0)) ?_ (0,.nils,_) ⟨Ax _,fun i hi=>Es hi,Rf _ _,D3⟩
 rintro⟨j,u,s⟩ ⟨hj,hk,ho,hg⟩ jh;simp only at hj hk ho hg jh;refine Bd Boy ?_;rcases Bh j L.length with h | h;rotate_left
 .have qX:j=L.length:=by omega
  subst qX;rw[Dq]at hg;simp only[go_sem,Bl h];exact qd u s hk ho hg
 obtain⟨x,hx,-,jB⟩:=Br h;obtain⟨kl,km⟩:=hL x jB;obtain⟨r,rfl⟩:∃ r:Nat,x=r:=⟨x.toNat,by omega⟩;obtain⟨k,qY,-,-⟩:=Br (l:=J) (i:=r) AA;have j1:IntKind.i64.wrap ((j:Int)+1)=((j+1:Nat):Int):=A2 AA;have qc:=(Ao.1 ho).1
 have qN:((L.take (j+1)).map fun x=>J.getD x.toNat kz).map A0=((L.take j).map fun x=>J.getD x.toNat kz).map A0++[(kR k)]:=by
  rw[M3,hx];simp only[Ac9,Fz,Aw,B0,Nr,Ef,qY];rfl
 have jy:=(hk 2 AA).trans h2;obtain⟨u2,s5,e5,g5,l5,-,k5⟩:=I1 (bytes:=40) (y:=.lst 1 [(kR k)]) (ys:=[(kR k)]) (Ix (l:=[Ob.row (kR k) 45 0 0]) hg) (by grind) rfl AA (H0 _) AE (by grind);have qo:∀ X,(s++[X])[s0.length]?=some (.row [iV kd,u,iV sn,iV ms] 43 0 0):=fun X=>By ho
 have jv:=(k5 s0.length AA).trans (qo _);have cu:=N3 (Cg g5);have cv:=Cg g5
 have jg:W TT PT (.l [6,8,14,74,75,76] lp20_1::.b 3::k0) [(6,.ptr 2 0 0),(8,.ptr 3 0 0),(14,.ptr s0.length 0 0),(74,v),(75,iV (L.length:Int)),(76,iV ((j+1:Nat):Int))] (s5.set s0.length (.row [iV kd,u2,iV sn,iV ms] 43 0 0)) Q:=by
  refine jh (j+1,u2,_) AA ⟨h,fun i hi=>?_,?_,?_⟩
  .grind[List.getElem?_set_ne]
  .grind
  .grind[D4]
 cases hv with
 | set=>
  have ka:(Bj L)[j]?=some [iV (r:Int)]:=by unfold Bj;rw[Au,hx];rfl
  simp only[go_sem,Az h,ka,jy];refine Ab (gk r k qY) AB ?_;simp only[go_sem,qo,e5,jv,cu,cv,j1];exact Av jg rfl
 | obj hvo hv4=>
  have jY:=(hk _ (Ao.1 hvo).1).trans hvo;simp only[go_sem,Az h,Nb h,jY,ilo hx,jy];refine Ab (gk r k qY) AB ?_;simp only[go_sem,qo,e5,jv,cu,cv,j1];exact Av jg rfl
set_option maxHeartbeats 4000000 in
def Bbq{p q:Gp}(hp:PX p)(hq:PX q)(M:List Int)(qR:M.length=(C7 p).length)(hM:∀ x∈M,x<((C7 q).length:Int))(e:Ent)(hs:e.sites.length<=1000)(ki:e.sites≠[])(hK:(C7 p).length<=1000000000000):
  Fn TT PT 20 [.agg e.row,.agg p.row,.agg q.row,SL true 0 (Bj M)] (Ao1 (Ht (C7 p) M (C7 q) e)):=by
 have gs:=fun k=>Bfq hp k hK
 have gk:=fun(s:Nat) (k:Ak) (h:(C7 q)[s]?=some k)=>Bbm hq h
 have jb:=F1 p;have jc:=F1 q;rw[jb]at gs ⊢;rw[jc]at gk ⊢;generalize C7 p=K at *;generalize C7 q=J at *;have jm:=Iv M;have jQ:(e.sites.map A0).length=e.sites.length:=Ar ..
 have qj:∀ (j:Nat) (k:Ak),e.sites[j]?=some k->Mr 3 e.sl (iV (j:Int))=some (.imm (kR k) 0):=fun j k hk=>by
  simp_all [A0,Ent.sl,Af0,Alg]
 have qT:Nh e.sl=some (iV (e.sites.length:Int)):=by unfold Ent.sl;rw[Afz,jQ]
 have jR:e.sl.cellB=true:=by unfold Ent.sl;exact S8 ..
 have jO:(e.sites.length*8<=140737488355328)=True:=eq_true AA;obtain⟨σ0,jf⟩:∃ σ0:St,σ0=[eO e e.sl,gO p,gO q,.row [iV 0,.nils,iV 0,iV 0] 43 0 0]:=⟨_,rfl⟩;refine Bg T20 rfl ?_;unfold Ent.row;simp only[go_sem,jO,qT]
 refine Bk (α:=Nat × V × St × List Nat) (fun a=>e.sites.length - a.1) (fun a=>[(3,SL true 0 (Bj M)),(4,.ptr 0 0 0),(5,.ptr 1 0 0),(6,.ptr 2 0 0),(8,.ptr 3 0 0),(10,a.2.1),(24,e.sl),(25,iV (e.sites.length:Int)),(26,iV (a.1:Int))]) (fun a=>a.2.2.1)
  (fun a=>a.1<=e.sites.length/\Ga K M (e.sites.take a.1)=some a.2.2.2/\(∀ j,j<4->a.2.2.1[j]?=σ0[j]?)/\4<=a.2.2.1.length/\GV a.2.2.1 1 3 4 a.2.1 (Bj (a.2.2.2.map fun n:Nat=>(n:Int)))) ?_ (0,_,_,[]) ⟨Ax _,rfl,fun j hj=>by grind,by simp,.inr ⟨4,0,rfl,rfl,Aj _⟩⟩
 rintro⟨i,u,s,r⟩ ⟨hi,hc,h0,je,hg⟩ ih;simp only at hi hc h0 je hg ih;refine Bd Box ?_;have e1:=h0 1 AA;have e3:=h0 3 AA;have e0:=h0 0 AA;have e2:=h0 2 AA;rw[jf]at e0 e1 e2 e3;simp only[Wq,Q5]at e0 e1 e2 e3;rcases Bh i e.sites.length with h | h
 .obtain⟨k,hk,-,jT⟩:=Br h;have i1:IntKind.i64.wrap ((i:Int)+1)=((i+1:Nat):Int):=A2 AA;have qN:e.sites.take (i+1)=e.sites.take i++[k]:=by rw[M3,hk];rfl
  have hA:∀ X,(s++[X])[1]?=some (gO p):=fun X=>By e1
  have jk:∀ X,(s++[X])[3]?=some (.row [iV 0,.nils,iV 0,iV 0] 43 0 0):=fun X=>By e3
  have qm:=gs k;unfold sI at qm
  have qh:Ih K M k=none->Ht K M J e=none:=fun h1=>by
   unfold Ht;rw[Adq.2 ⟨k,jT,h1⟩];rfl
  have qb:∀ X Y:Ob,((s++[X]).set 3 Y)[3]?=some Y:=fun X Y=>Cr (by grind)
  have next:Ga K M (e.sites.take (i+1))=(Ih K M k).map fun n=>r++[n]:=by rw[qN,Ap5,hc,C5]
  cases hsn:Jv K k with
  | none=>
   have qv:Ih K M k=none:=by unfold Ih;rw[hsn]
   rw[hsn]at qm;rw[qh qv];simp only[go_sem,Az h,qj i k hk,hA];refine Ab qm AB ?_;simp only[go_sem,jk,qb];exact Gt AK
  | some s'=>
   rw[hsn]at qm;have jd:s'<M.length:=by rw[qR];exact(Ao.1 (U6.1 hsn).1).1
   obtain⟨m,hm,-,qA⟩:=Br jd;have jt:(Bj M)[s']?=some [iV m]:=by unfold Bj;rw[Au,hm];rfl
   have jp:M.getD s' (-1)=m:=by rw[Ef,hm];rfl
   have f3:((s':Int)<0)=False:=eq_false AA;have f4:((s':Int)>=(M.length:Int))=False:=eq_false AA;by_cases qf:m<0
   .have f5:(m<0)=True:=eq_true qf;have qv:Ih K M k=none:=by unfold Ih;rw[hsn];simp only[jp];rw[if_pos qf]
    rw[qh qv];simp only[go_sem,Az h,qj i k hk,hA];refine Ab qm AB ?_;simp only[go_sem,f3,jm,f4,Az jd,jt,f5,jk,qb];exact Gt AK
   .have f5:(m<0)=False:=eq_false qf;have qv:Ih K M k=some m.toNat:=by unfold Ih;rw[hsn];simp only[jp];rw[if_neg qf]
    rw[qv]at next
    have qp:=Adx hc;rw[Iq]at qp;obtain⟨v2,s3,jE,g3,l3,-,k3⟩:=Ame (bytes:=8) (y:=.lst 1 [[iV m]]) (ys:=[[iV m]]) (Bdm (l:=[Ob.row (kR k) 45 0 0]) hg) (by grind) rfl AA (Qh _) AE (by rw[Iv];simp;omega);simp only[go_sem,Az h,qj i k hk,hA];refine Ab qm AB ?_;simp only[go_sem,f3,jm,f4,Az jd,jt,f5,jE,i1];refine Av (ih (i+1,v2,s3,r++[m.toNat]) AA ⟨h,next,fun j hj=>?_,by grind,?_⟩) rfl
    .simp only;rw[k3 j AA,Es AA]
     grind
    .simp only;rw[Fz,Asd,Aw,B0,Aif AA];exact g3
 have qV:i=e.sites.length:=by omega
 subst qV;rw[Dq]at hc;have qp:=Adx hc;have qt:Ht K M J e=some ⟨e.kind,(Hs e.kind (r.map fun n:Nat=>(n:Int))).map (fun s=>J.getD s.toNat kz),e.seen,e.missed,true,0⟩:=by unfold Ht;rw[hc];rfl
 have kk:∀ n∈r,(n:Int)<(J.length:Int):=Aj8 hM hc
 have qQ:∀ x∈Hs e.kind (r.map fun n:Nat=>(n:Int)),0<=x/\x<(J.length:Int):=Ak5 fun x hx=>by
  obtain⟨n,hn,rfl⟩:=Cs.1 hx
  grind
 have kf:(Hs e.kind (r.map fun n:Nat=>(n:Int))).length=e.sites.length:=by rw[Avl,Ar,qp]
 have jx:(r.map fun n:Nat=>(n:Int))≠[]:=fun e1=>by
  have h1:=congrArg List.length e1
  grind
 have jL:(r.map fun n:Nat=>(n:Int)).length=e.sites.length:=by rw[Ar,qp]
 rw[qt];clear qt;generalize(r.map fun n:Nat=>(n:Int))=L at *;rcases hg with⟨-,hg⟩ | ⟨ii,g,rfl,ho,qn⟩
 .exact absurd (by grind[Bj,List.map_eq_nil_iff]) jx
 have qJ:GW s 1 3 4 (.sl ii g 0 (Bj L).length 1 true) (Bj L):=.inr ⟨by simp_all [Bj],ii,g,rfl,ho,qn⟩;have qW:=(Ao.1 ho).1;rw[Iv]at qJ ⊢;rw[An7]at ho;generalize hZ:Hs e.kind L=Z at *;by_cases qy:e.kind=1
 .have qs:Z=I5 L:=by rw[<-hZ];unfold Hs;rw[if_pos qy]
  clear hZ;subst qs
  have q1:Acc [.sl ii g 0 L.length 1 true] s=some (.tup [],s.set ii (.row (Dx (I5 L)) 3 g 0)):=by
   simp only[Acc,ho,Ate];rw[if_pos ⟨trivial,trivial,by omega⟩]
  have f1:(e.kind==1)=true:=by simpa using qy
  simp only[go_sem,Bl h,e0,f1];refine Jg (.spec T46 rfl rfl q1) ?_;have qk:∀ j,j<4->(s.set ii (.row (Dx (I5 L)) 3 g 0))[j]?=s[j]?:=fun j hj=>Ce AA
  have hv:IntsL (s.set ii (.row (Dx (I5 L)) 3 g 0)) (I5 L) (.sl ii g 0 L.length 1 true):=by
   rw[<-Ajo L];exact .obj (Cr qW) qn
  have qE:=Ak6 hv;have qB:4<=(s.set ii (.row (Dx (I5 L)) 3 g 0)).length:=by simp;omega
  generalize s.set ii (.row (Dx (I5 L)) 3 g 0)=s2 at *;generalize V.sl ii g 0 L.length 1 true=v at *;have q0:=(qk 0 AA).trans e0;have q2:=(qk 2 AA).trans e2;have q3:=(qk 3 AA).trans e3;simp only[go_sem,q0,qE];refine Av (Ak7 gk qQ AA hv qB q2 fun u s3 qz qC qb=>?_) rfl;have qi:=(qz 3 AA).trans q3;have qD:=Cg qb;have qq:=fun X:Ob=>Cr (a:=X) (Ao.1 qi).1
  simp only[go_sem,qC,qi,qD,qq];exact Aj1 (pre:=[iV e.kind]) (post:=[iV e.seen,iV e.missed]) (D4 qb AA) AA (H0 _) (Nu _) rfl rfl rfl
 have f1:(e.kind==1)=false:=by simpa using qy
 by_cases qK:e.kind=2
 .have qs:Z=Gv L:=by rw[<-hZ];unfold Hs;rw[if_neg qy,if_pos qK];rfl
  clear hZ;subst qs;have f2:(e.kind==2)=true:=by simpa using qK
  have g5:=Bgx true 0 L jx AA;obtain⟨s2,ha,kh,qU⟩:=Aj7 qJ (X0 _) (args:=[.sl ii g 0 L.length 1 true]) (v:=SL true 0 (Bj (Gv L))) (by grind[Ag]);simp only[go_sem,Bl h,e0,f1,f2];refine A0d (.cons (Vl (Mj qJ AA (Qh _) (X0 _)) (Cg qJ)) .nil) g5 ha ?_;have qk:∀ j,j<4->s2[j]?=s[j]?:=fun j hj=>qU j (by grind[V.refs])
  have hv:IntsL s2 (Gv L) (SL true 0 (Bj (Gv L))):=.set;have qE:=Ak6 hv;have qB:4<=s2.length:=by omega
  generalize SL true 0 (Bj (Gv L))=v at *;have q0:=(qk 0 AA).trans e0;have q2:=(qk 2 AA).trans e2;have q3:=(qk 3 AA).trans e3;simp only[go_sem,q0,qE];refine Av (Ak7 gk qQ AA hv qB q2 fun u s3 qz qC qb=>?_) rfl;have qi:=(qz 3 AA).trans q3;have qD:=Cg qb;have qq:=fun X:Ob=>Cr (a:=X) (Ao.1 qi).1
  simp only[go_sem,qC,qi,qD,qq];exact Aj1 (pre:=[iV e.kind]) (post:=[iV e.seen,iV e.missed]) (D4 qb AA) AA (H0 _) (Nu _) rfl rfl rfl
 .have qs:Z=L:=by rw[<-hZ];unfold Hs;rw[if_neg qy,if_neg qK]
  clear hZ;subst qs;have f2:(e.kind==2)=false:=by simpa using qK
  have qk:∀ j,j<4->s[j]?=s[j]?:=fun _ _=>rfl
  have hv:IntsL s Z (.sl ii g 0 Z.length 1 true):=.obj ho qn;have qE:=Ak6 hv;have qB:=je;generalize V.sl ii g 0 Z.length 1 true=v at *;simp only[go_sem,Bl h,e0,f1,f2];have q0:=(qk 0 AA).trans e0;have q2:=(qk 2 AA).trans e2;have q3:=(qk 3 AA).trans e3;simp only[go_sem,q0,qE];refine Av (Ak7 gk qQ AA hv qB q2 fun u s3 qz qC qb=>?_) rfl;have qi:=(qz 3 AA).trans q3;have qD:=Cg qb;have qq:=fun X:Ob=>Cr (a:=X) (Ao.1 qi).1
  simp only[go_sem,qC,qi,qD,qq];exact Aj1 (pre:=[iV e.kind]) (post:=[iV e.seen,iV e.missed]) (D4 qb AA) AA (H0 _) (Nu _) rfl rfl rfl
def Uq(x y:Ent):Int:=if Cv x y<0 then -1 else if Cv y x<0 then 1 else 0
def Ax2{x y:Ent}:Uq x y<0↔Cv x y<0:=by
 grind[Uq]
def Bgy(x y:Ent)(hx:x.sites.length<=9223372036854775807)(hy:y.sites.length<=9223372036854775807):Fn TT PT 23 [.agg x.row,.agg y.row] (iV (Uq x y)):=by
 have g1:=Afg x y hx hy;have g2:=Afg y x hy hx;refine Bg T23 rfl ?_;unfold Ent.row at *;simp only[go_sem];refine Ab g1 AB ?_;simp only[go_sem];by_cases h1:Cv x y<0
 .have f1:decide (Cv x y<0)=true:=decide_eq_true h1;simp only[go_sem,f1];exact Ah rfl (by simp_all [Uq])
 have f1:decide (Cv x y<0)=false:=decide_eq_false h1;simp only[go_sem,f1];refine Ab g2 AB ?_;simp only[go_sem];by_cases h2:Cv y x<0
 .have f2:decide (Cv y x<0)=true:=decide_eq_true h2;simp only[go_sem,f2];exact Ah rfl (by simp_all [Uq])
 have f2:decide (Cv y x<0)=false:=decide_eq_false h2;simp only[go_sem,f2];exact Ah rfl (by unfold Uq;grind)
def K4(L:List Ent):List V:=(L.map Ent.row).flatten
def A7h{s:St}{i g n b ii:Nat}{w:Bool}(hi:i<s.length)(hn:n<=1000){k0:List It}{Q:Env->St->Prop}{R A:List Ent}{x:Ent}(hs:∀ e∈A,e.sites.length<=1000)
  (qd:∀ (D:List Ent) (j:Nat),Nl Im Ent.ks D->D.Perm A->W TT PT k0 [(0,.sl i g 0 n 4 w),(1,iV 0),(2,iV (b:Int)),(3,.fn 23 [] []),(8,iV (ii:Int)),(9,iV (j:Int))] (s.set i (.row (K4 (D++R)) 43 g 0)) Q)
  (P0:List Ent) (hA:(P0++[x]).Perm A) (ke:A.length+R.length=n) (h0:Nl Im Ent.ks P0) :
  W TT PT (.l [0,1,2,3,8,9] lp81_0::.b 2::k0) [(0,.sl i g 0 n 4 w),(1,iV 0),(2,iV (b:Int)),(3,.fn 23 [] []),(8,iV (ii:Int)),(9,iV (P0.length:Int))] (s.set i (.row (K4 (P0++x::R)) 43 g 0)) Q:=by
 refine Bk (α:=List Ent × List Ent) (fun a=>a.1.length) (fun a=>[(0,.sl i g 0 n 4 w),(1,iV 0),(2,iV (b:Int)),(3,.fn 23 [] []),(8,iV (ii:Int)),(9,iV (a.1.length:Int))]) (fun a=>s.set i (.row (K4 (a.1++x::(a.2++R))) 43 g 0))
  (fun a=>InsI Im Ent.ks a.1 x a.2/\(a.1++x::a.2).Perm A) ?_ (P0,[]) ⟨Be3 h0,hA⟩
 rintro⟨P,Z⟩ ⟨hI,hP⟩ ih;simp only at hI hP ih;refine Bd Bpz ?_;have qc:=hP.length_eq;rw[Aq,An]at qc;have qa:=fun X:Ob=>Cr (a:=X) hi
 have Ah0:=fun X Y:Ob=>Ai0 (l:=s) (i:=i) (a:=X) (b:=Y)
 rcases List.eq_nil_or_concat P with rfl | ⟨P,p,rfl⟩
 .simp only[go_sem];refine Af AD ?_;simp only[go_sem];have:=qd (x::Z) 0 (A6d lin_p hI) hP;exact this
 rw[List.concat_eq_append]at *;have hj:((P++[p]).length:Int)=((P.length+1:Nat):Int):=by simp
 have w1:IntKind.i64.wrap (((P.length+1:Nat):Int) - 1)=((P.length:Nat):Int):=by rw[Cm AA];omega
 have hD:P++[p]++x::(Z++R)=P++p::x::(Z++R):=by simp
 have jl:(P++p::x::(Z++R)).length=n:=by simp at qc ⊢;omega
 have hx:((P++p::x::(Z++R)).map Ent.row)[P.length+1]?=some x.row:=by simp
 have hp:((P++p::x::(Z++R)).map Ent.row)[P.length]?=some p.row:=by simp
 have qO:=Afv (e:=43) (g:=g) (z:=0) (Gn _) hx;have jC:=Afv (e:=43) (g:=g) (z:=0) (Gn _) hp;have ju:P.length+1<n:=by simp at qc;omega
 have qZ:P.length<n:=by omega
 have f1:((0:Int)<((P.length+1:Nat):Int))=True:=eq_true AA;have gc:=Bgy x p (by have:=hs x (hP.mem_iff.1 AE);omega) (by have:=hs p (hP.mem_iff.1 AE);omega);unfold K4 at *;rw[hj,hD];simp only[go_sem,f1];refine Af AD ?_;simp only[go_sem,f1,Nb ju,Nb qZ,w1,qa,qO,jC];simp only[Vo]at gc;refine Bf gc AB ?_;by_cases ql:Cv x p<0;rotate_left
 .have f2:(Uq x p<0)=False:=eq_false fun h=>ql (Ax2.1 h)
  simp only[go_sem,f2];have h2:=qd (P++p::x::Z) (P.length+1) (by have:=A92 lin_p hI ql;grind) (by grind);rw[Bt]at h2;exact h2
 have f2:(Uq x p<0)=True:=eq_true (Ax2.2 ql);simp only[go_sem,f2];have hF:∀ L:List Ent,((L.map Ent.row).flatten).length=L.length*4:=fun L=>by rw[Gg (Gn L),Ar]
 have q1:=Aa7 (r:=p.row) (i:=P.length+1) (Gn (P++p::x::(Z++R))) AE rfl;have q2:=Aa7 (r:=x.row) (i:=P.length) (Gn (P++p::p::(Z++R))) AE rfl;rw[show((P++p::x::(Z++R)).map Ent.row).set (P.length+1) p.row=(P++p::p::(Z++R)).map Ent.row by simp,Bt]at q1;rw[show((P++p::p::(Z++R)).map Ent.row).set P.length x.row=(P++x::p::(Z++R)).map Ent.row by simp,Bt]at q2;simp only[Vo,Bq,Ba]at q1 q2;have l1:((P.length+1)*4+4<=((P++p::x::(Z++R)).map Ent.row).flatten.length)=True:=eq_true (by grind);have l2:(P.length*4+4<=((P++p::p::(Z++R)).map Ent.row).flatten.length)=True:=eq_true (by rw[hF];grind);refine Af AD ?_;simp only[go_sem,Nb ju,Nb qZ,w1,qa,qO,jC,l1,q1,Ah0];refine Ri (by repeat (first | exact trivial | refine⟨.inl AK,?_⟩ | refine⟨by rfl,?_⟩ | refine⟨.inr ⟨by rfl,by rfl⟩,?_⟩)) (by repeat (first | exact trivial | refine⟨.inl AK,?_⟩ | refine⟨by rfl,?_⟩ | refine⟨.inr ⟨by rfl,by rfl⟩,?_⟩)) ?_;simp only[go_sem,Nb qZ,qa,l2,q2,Ah0];refine Ri (by repeat (first | exact trivial | refine⟨.inl AK,?_⟩ | refine⟨by rfl,?_⟩ | refine⟨.inr ⟨by rfl,by rfl⟩,?_⟩)) (by repeat (first | exact trivial | refine⟨.inl AK,?_⟩ | refine⟨by rfl,?_⟩ | refine⟨.inr ⟨by rfl,by rfl⟩,?_⟩)) ?_;simp only[go_sem,w1];exact Av (ih (P,p::Z) AE ⟨A91 hI ql,(A6e P Z p x).symm.trans (by grind)⟩) rfl
theorem A7i(L:List Ent):(K4 L).all V.rowB=true:=Id (O1 L)
theorem Ae3{s:St}{i g:Nat}(L:List Ent)(h:Cl s):Cl (s.set i (.row (K4 L) 43 g 0)):=F9 h (by grind[Ob.refs,Ft,A7i])
def Ax3{s:St}(hc:Cl s)(v:V)(a b:Nat)(h:b<=a+1)(ha:a<=1000):
  ∃ s',Th TT PT 81 [v,iV (a:Int),iV (b:Int),.fn 23 [] []] s (.tup []) s'/\s'=s:=by
 have w1:IntKind.i64.wrap ((a:Int)+1)=((a+1:Nat):Int):=A2 AA;have f1:(((a+1:Nat):Int)<(b:Int))=False:=eq_false AA;refine Yc T81 rfl ?_ rfl rfl (fun s' h=>by grind);simp only[go_sem,w1];refine Bd A0n ?_;simp only[go_sem,f1];trivial
def Bl3{s:St}(hc:Cl s){i g:Nat}{w:Bool}(L:List Ent)(hn:L.length<=1000)(hi:s[i]?=some (.row (K4 L) 43 g 0))(hs:∀ e∈L,e.sites.length<=1000):
  ∃ s',Th TT PT 81 [.sl i g 0 L.length 4 w,iV 0,iV (L.length:Int),.fn 23 [] []] s (.tup []) s'/\∃ D:List Ent,D.Perm L/\Nl Im Ent.ks D/\s'=s.set i (.row (K4 D) 43 g 0):=by
 have qW:=(Ao.1 hi).1
 refine Yc T81 rfl ?_ rfl rfl (fun s' h=>by
  obtain⟨D,-,-,rfl⟩:=h
  grind[Ae3])
 have w0:IntKind.i64.wrap ((0:Int)+1)=((1:Nat):Int):=rfl;simp only[go_sem,w0]
 refine Bk (α:=Nat × List Ent × St) (fun a=>L.length - a.1) (fun a=>[(0,.sl i g 0 L.length 4 w),(1,iV 0),(2,iV (L.length:Int)),(3,.fn 23 [] []),(8,iV (a.1:Int))]) (fun a=>a.2.2)
  (fun a=>a.2.1.Perm (L.take a.1)/\Nl Im Ent.ks a.2.1/\a.2.2=s.set i (.row (K4 (a.2.1++L.drop a.1)) 43 g 0)) ?_ (1,L.take 1,s) ⟨.refl _,by
   match L with
   | []=>exact .nil
   | [x]=>exact List.pairwise_singleton _ _
   | x::_::_=>exact List.pairwise_singleton _ _,by grind[List.take_append_drop,Nw]⟩
 rintro⟨j,D,s'⟩ ⟨hp,hl,jz⟩ ih;simp only at hp hl jz ih;subst jz;refine Bd A0n ?_;rcases Bh j L.length with h | h;rotate_left
 .rw[Ic h]at hp;simp only[go_sem,Bl h];rw[D1 h,Cc];exact⟨rfl,D,hp,hl,rfl⟩
 obtain⟨x,hx,jZ,jB⟩:=Br h;have j1:IntKind.i64.wrap ((j:Int)+1)=((j+1:Nat):Int):=A2 AA;have jl:D.length=j:=by rw[hp.length_eq,Iq];omega
 have qN:L.take (j+1)=L.take j++[x]:=by rw[M3,hx];rfl
 rw[jZ];simp only[go_sem,Az h];refine Av (A7h (A:=D++[x]) (R:=L.drop (j+1)) (x:=x) qW hn (fun e he=>?_) (fun D' j' h1 h2=>?_) D (.refl _) (by grind) hl) (by rw[jl])
 .grind
 .simp only[go_sem,j1];exact Av (ih (j+1,D',_) AA ⟨by rw[qN];exact h2.trans (hp.append_right _),h1,rfl⟩) rfl
def A4u{s:St}(hc:Cl s):
  ∃ s',Th TT PT 49 [.nils,iV 0,.fn 23 [] []] s (.tup []) s'/\s'=s:=by
 obtain⟨s1,h1,rfl⟩:=Ax3 hc .nils 0 0 AA AA;refine Yc T49 rfl ?_ rfl rfl (fun s' h=>by grind);simp only[go_sem];refine Bd Ans ?_;simp only[go_sem];refine Ca h1 ?_;simp only[go_sem];refine Bd Ant ?_;simp only[go_sem];trivial
def A7j{s:St}(hc:Cl s){i g:Nat}{w:Bool}(L:List Ent)(hn:L.length<=20)(hi:s[i]?=some (.row (K4 L) 43 g 0))(hs:∀ e∈L,e.sites.length<=1000):
  ∃ s',Th TT PT 49 [.sl i g 0 L.length 4 w,iV (L.length:Int),.fn 23 [] []] s (.tup []) s'/\∃ D:List Ent,D.Perm L/\Nl Im Ent.ks D/\s'=s.set i (.row (K4 D) 43 g 0):=by
 obtain⟨s1,h1,D,hp,hl,rfl⟩:=Bl3 hc (w:=w) L AA hi hs;have jP:=Ae3 (i:=i) (g:=g) D hc
 refine Yc T49 rfl ?_ rfl rfl (fun s' h=>by
  obtain⟨D,-,-,rfl⟩:=h
  grind[Ae3])
 simp only[go_sem];refine Bd Ans ?_;by_cases jI:L.length=20
 .obtain⟨s2,h2,rfl⟩:=Ax3 jP (.sl i g 0 L.length 4 w) 20 L.length AA AA;have f1:((20:Int)<=(L.length:Int))=True:=eq_true AA;have f2:((40:Int)<=(L.length:Int))=False:=eq_false AA;have f3:((20:Int)<(L.length:Int))=False:=eq_false AA
  have h1:Th TT PT 81 [.sl i g 0 L.length 4 w,iV 0,iV 20,.fn 23 [] []] s (.tup []) (s.set i (.row (K4 D) 43 g 0)):=by
   rw[jI]at h1 ⊢;exact h1
  simp only[go_sem,f1];refine Ca h1 ?_;simp only[go_sem];refine Bd Ans ?_;simp only[go_sem,f2];refine Ca h2 ?_;simp only[go_sem];refine Bd Ant ?_;simp only[go_sem,f3];exact⟨rfl,D,hp,hl,rfl⟩
 .have f1:((20:Int)<=(L.length:Int))=False:=eq_false AA;have f3:((20:Int)<(L.length:Int))=False:=eq_false AA;simp only[go_sem,f1];refine Ca h1 ?_;simp only[go_sem];refine Bd Ant ?_;simp only[go_sem,f3];exact⟨rfl,D,hp,hl,rfl⟩
def A7k{s:St}(hc:Cl s):
  ∃ s',Th TT PT 22 [.nils,.fn 23 [] []] s (.tup []) s'/\s'=s:=by
 obtain⟨s1,h1,rfl⟩:=A4u hc;refine Yc T22 rfl ?_ rfl rfl (fun s' h=>by grind);simp only[go_sem];refine Ca h1 ?_;simp only[go_sem];trivial
def Bbr{s:St}(hc:Cl s){i g:Nat}{w:Bool}(L:List Ent)(hn:L.length<=20)(hi:s[i]?=some (.row (K4 L) 43 g 0))(hs:∀ e∈L,e.sites.length<=1000):
  ∃ s',Th TT PT 22 [.sl i g 0 L.length 4 w,.fn 23 [] []] s (.tup []) s'/\∃ D:List Ent,D.Perm L/\Nl Im Ent.ks D/\s'=s.set i (.row (K4 D) 43 g 0):=by
 obtain⟨s1,h1,h2⟩:=A7j hc (w:=w) L hn hi hs
 refine Yc T22 rfl ?_ rfl rfl (fun s' h=>by
  obtain⟨D,-,-,rfl⟩:=h
  grind[Ae3])
 simp only[go_sem];refine Ca h1 ?_;simp only[go_sem];exact⟨rfl,h2⟩
def Avm{m:Nat}{xs:List (List V)}{i j:Nat}{r:List V}{c:V}(hl:∀ r∈xs,r.length=m)(hr:xs[i]?=some r)(hj:j<m):
  xs.flatten.take (i*m+j)++c::xs.flatten.drop (i*m+j+1)=(xs.set i (r.set j c)).flatten:=by
 obtain⟨hi,qM⟩:=Ao.1 hr;have qp:=hl r (F7 hr);have h1:=Aa7 (r:=r) hl hi qp;have h2:=Aa7 (r:=r.set j c) hl hi (by grind);rw[show xs.set i r=xs by grind[List.set_getElem_self]]at h1;rw[<-h2];have jK:=Gg hl
 have hA:(xs.flatten.take (i*m)).length=i*m:=by
  rw[Iq,jK];have:i*m<=xs.length*m:=E0 m AA;omega
 generalize xs.flatten.drop (i*m+m)=B at *;generalize xs.flatten.take (i*m)=A at *;rw[<-h1,List.set_eq_take_append_cons_drop,if_pos AA]
 have e1:(A++r++B).take (i*m+j)=A++r.take j:=by
  rw[Bt,List.take_append,hA,Ic AA,show i*m+j - i*m=j by omega,Aia AA]
 have e2:(A++r++B).drop (i*m+j+1)=r.drop (j+1)++B:=by
  rw[Bt,Wy,hA,D1 AA,show i*m+j+1 - i*m=j+1 by omega,List.drop_append_of_le_length AA,Ba]
 grind
theorem A4v{O:List Ent}{x e:Ent}(h:¬ Cv x e<0):K3 (O++[x]) e=O++[Mx x e]:=by
 grind[K3]
theorem A4w{O:List Ent}{x e:Ent}(h:Cv x e<0):K3 (O++[x]) e=O++[x]++[e]:=by
 grind[K3]
set_option maxHeartbeats 2000000 in
def A7l(z:Bool)(t:Nat)(S:List Ent)(hn:S.length<=1000)(hs:∀ e∈S,e.sites.length<=1000):
  Fn TT PT 25 [SL z t (S.map Ent.row)] (SL true 0 ((S.foldl K3 []).map Ent.row)):=by
 have jM:(S.map Ent.row).length=S.length:=Ar ..;refine Bg T25 rfl ?_;simp only[go_sem,jM]
 refine Bk (α:=Nat × V × St × List Ent) (fun a=>S.length - a.1) (fun a=>[(3,a.2.1),(7,SL z t (S.map Ent.row)),(8,iV (S.length:Int)),(9,iV (a.1:Int))]) (fun a=>a.2.2.1)
  (fun a=>a.1<=S.length/\a.2.2.2=(S.take a.1).foldl K3 []/\a.2.2.2.length<=a.1/\(∀ e∈a.2.2.2,e.sites.length<=1000)/\GW a.2.2.1 4 43 0 a.2.1 (a.2.2.2.map Ent.row)) ?_ (0,.nils,[],[]) ⟨Ax _,rfl,Aj _,(fun e he=>by cases he),D3⟩
 rintro⟨i,u,s,O⟩ ⟨hi,hO,qS,jn,hg⟩ ih;simp only at hi hO qS jn hg ih;refine Bd Boz ?_;rcases Bh i S.length with h | h;rotate_left
 .simp only[go_sem,Bl h];rw[Ic h]at hO;rw[<-hO];exact Tr hg AA (Gn _) (O1 _)
 obtain⟨e,he,-,qw⟩:=Br h;have i1:IntKind.i64.wrap ((i:Int)+1)=((i+1:Nat):Int):=A2 AA;have kg:=hs e qw;have qx:(S.map Ent.row)[i]?=some (eR e e.sl):=by rw[Au,he];rfl
 have jV:(S.take (i+1)).foldl K3 []=K3 O e:=by rw[M3,he,Ac9,List.foldl_append,<-hO];rfl
 have qG:∀ X:Ob,(s++[X])[s.length]?=some X:=fun X=>Rf _ _
 have jS:=Ix (l:=[eO e e.sl]) hg;obtain⟨v2,s3,e3,g3,-,-,-⟩:=I1 (bytes:=48) (y:=.lst 1 [(eR e e.sl)]) (ys:=[(eR e e.sl)]) jS (Ax _) rfl AA (Gn _) AE (by grind);rcases List.eq_nil_or_concat O with rfl | ⟨O,x,rfl⟩
 .have jX:=Azo hg;simp only[go_sem,Az h,qx,jX];refine Af AD ?_;simp only[go_sem];simp only[go_sem,qG,e3,i1];exact Av (ih (i+1,v2,s3,[e]) AA ⟨h,jV.symm,by simp,fun y hy=>by grind,g3⟩) rfl
 rw[List.concat_eq_append]at *;rcases hg with⟨-,hg⟩ | ⟨-,o,g,rfl,ho,-⟩
 .simp at hg
 have jU:((O++[x]).map Ent.row).length=O.length+1:=by simp
 rw[jU]at e3 ⊢;have hx:((O++[x]).map Ent.row)[O.length]?=some x.row:=by simp
 have qO:=Afv (e:=43) (g:=g) (z:=0) (Gn _) hx;have qo:=fun X:Ob=>By (l:=[X]) ho
 have f1:((0:Int)<((O.length+1:Nat):Int))=True:=eq_true AA;have qS:O.length+1<=i:=by simpa using qS
 have w1:IntKind.i64.wrap (((O.length+1:Nat):Int) - 1)=((O.length:Nat):Int):=by rw[Cm AA];omega
 have kb:=jn x AE;have gl:=Afg x e AA AA;simp only[Vo]at gl;simp only[go_sem,Az h,qx];refine Af AD ?_;simp only[go_sem,f1,w1,Nb (Adf O.length),qo,qO,qG];refine Bf gl AB ?_;by_cases ql:Cv x e<0
 .have f2:decide (Cv x e<0)=true:=decide_eq_true ql;simp only[go_sem,f2,qG,e3,i1];refine Av (ih (i+1,v2,s3,O++[x]++[e]) AA ⟨h,by grind[A4w],by grind,fun y hy=>?_,?_⟩) rfl
  .grind
  grind
 have f2:decide (Cv x e<0)=false:=decide_eq_false ql;simp only[go_sem,f2];have hF:∀ L:List Ent,((L.map Ent.row).flatten).length=L.length*4:=fun L=>by rw[Gg (Gn L),Ar]
 obtain⟨x2,qF⟩:∃ x2:Ent,x2={ x with seen:=max x.seen e.seen }:=⟨_,rfl⟩;have c2:=Ab7 (e:=43) (g:=g) (z:=0) (X1 (j:=2) (c:=iV x.seen) (Gn _) hx rfl);have q1:=Avm (j:=2) (c:=iV (max x.seen e.seen)) (Gn (O++[x])) hx AA;rw[show((O++[x]).map Ent.row).set O.length (x.row.set 2 (iV (max x.seen e.seen)))=(O++[x2]).map Ent.row by rw[qF];simp[Ent.row,Ent.sl]]at q1;have l1:(O.length*4+2+1<=((O++[x]).map Ent.row).flatten.length)=True:=eq_true (by grind);have kj:=(Ao.1 ho).1;have ji:=fun X:Ob=>Cr (l:=s++[eO e e.sl]) (i:=o) (a:=X) (by grind)
 have jG:∀ X:Ob,((s++[eO e e.sl]).set o X)[s.length]?=some (eO e e.sl):=fun X=>by grind
 have jH:=fun X Y:Ob=>Ai0 (l:=s++[eO e e.sl]) (i:=o) (a:=X) (b:=Y)
 have jA:((O++[x2]).map Ent.row)[O.length]?=some [iV x.kind,x.sl,iV (max x.seen e.seen),iV x.missed]:=by rw[qF];simp[Ent.row,Ent.sl]
 have c3:=Ab7 (e:=43) (g:=g) (z:=0) (X1 (j:=3) (c:=iV x.missed) (Gn _) jA rfl);have q3:=Avm (j:=3) (c:=iV (min x.missed e.missed)) (Gn (O++[x2])) jA AA;rw[show((O++[x2]).map Ent.row).set O.length (([iV x.kind,x.sl,iV (max x.seen e.seen),iV x.missed]:List V).set 3 (iV (min x.missed e.missed)))=(O++[Mx x e]).map Ent.row by simp[Ent.row,Ent.sl,Mx]]at q3;have l3:(O.length*4+3+1<=((O++[x2]).map Ent.row).flatten.length)=True:=eq_true (by grind);refine Af AD ?_;simp only[go_sem,w1,Nb (Adf O.length),qo,c2,qG,l1,q1];refine Ri (by repeat (first | exact trivial | refine⟨.inl AK,?_⟩ | refine⟨by rfl,?_⟩ | refine⟨.inr ⟨by rfl,by rfl⟩,?_⟩)) (by repeat (first | exact trivial | refine⟨.inl AK,?_⟩ | refine⟨by rfl,?_⟩ | refine⟨.inr ⟨by rfl,by rfl⟩,?_⟩)) ?_;simp only[go_sem];refine Af AD ?_;simp only[go_sem,w1,Nb (Adf O.length),ji,jG,c3,l3,q3,jH];refine Ri (by repeat (first | exact trivial | refine⟨.inl AK,?_⟩ | refine⟨by rfl,?_⟩ | refine⟨.inr ⟨by rfl,by rfl⟩,?_⟩)) (by repeat (first | exact trivial | refine⟨.inl AK,?_⟩ | refine⟨by rfl,?_⟩ | refine⟨.inr ⟨by rfl,by rfl⟩,?_⟩)) ?_;simp only[go_sem,i1];refine Av (ih (i+1,.sl o g 0 (O.length+1) 4 true,_,O++[Mx x e]) AA ⟨h,by grind[A4v],by grind,fun y hy=>?_,.inr ⟨by simp,o,g,by simp,ji _,Ax _⟩⟩) rfl;rcases Cu.1 hy with hy | hy
 .grind
 .rw[Gm.1 hy];exact kb
def A4x{σ:St}{m e i g:Nat}{xs:List (List V)}{cs:List V}{c:Int}(ho:σ[i]?=some (.row xs.flatten e g 0))(hm:0<m)(hl:∀ r∈xs,r.length=m)(hr:∀ r∈xs,r.all V.rowB=true)(h1:cs.all V.rowB=true):
  FR (.tup [.agg cs,.sl i g 0 xs.length m true,iV c]) σ (.tup [.agg cs,.lst 0 xs,iV c]):=by
 obtain⟨hi,ja⟩:=Ao.1 ho;have hx:Ag xs.flatten=[]:=Ft (Id hr);have h0:ren 0 [i] i=0:=by simp[ren,Adb]
 refine .inr ⟨[i],?_,?_⟩
 .simp only[Hy,Ci,Hm,V.refs,Ag,Ft h1,B5,Db,Vs h1,V.cellB,Cc,Ba]
  grind[El,Ob.refs]
 .simp only[Nq,ho,Ux,Aw,B0,Ob.ren,Pd i _ (Id hr),V.ren,Fh,Pd i _ h1,h0,Ed,Ky];have ha:OV [Ob.row xs.flatten e g 0] (.agg cs) (.agg cs):=I0 h1;have hb:OV [Ob.row xs.flatten e g 0] (.sl 0 g 0 xs.length m true) (.lst 0 xs):=Vl (Rw (i:=0) (g:=g) (e:=e) (z:=0) (w:=true) rfl hm hl hr) rfl;have hc:OV [Ob.row xs.flatten e g 0] (iV c) (iV c):=I0 rfl;exact congrArg (Option.map V.tup) (Vk (.cons ha (.cons hb (.cons hc .nil))) fun j hj=>Nz _ _ _ _ (Sn.2 hj))
def Bgz{σ:St}{m e lo:Nat}{u:V}{xs:List (List V)}{cs:List V}{c:Int}(h:GW σ m e lo u xs)(hm:0<m)(hl:∀ r∈xs,r.length=m)(hr:∀ r∈xs,r.all V.rowB=true)(h1:cs.all V.rowB=true):
  FR (.tup [.agg cs,u,iV c]) σ (.tup [.agg cs,SL true 0 xs,iV c]):=by
 rcases h with⟨rfl,rfl⟩ | ⟨hn,i,g,rfl,ho,qn⟩
 .exact Gt (by simp only[B5,Db,Da,h1];rfl)
 .rw[V3 hn];exact A4x ho hm hl hr h1
def Jc(K:List Ak)(M:List Int)(J:List Ak)(E:List Ent):List Ent:=(E.filter fun e=>(Ht K M J e).isNone).map Ent.own
def J5(K:List Ak)(M:List Int)(J:List Ak)(E:List Ent):List Ent:=E.filterMap (Ht K M J)
def A15(n:Int)(X L:List Ent):V:=.tup [.agg [iV n,SL true 0 (X.map Ent.row)],SL true 0 (L.map Ent.row),iV 0]
def Bbs{K:List Ak}{M:List Int}{J:List Ak}{E:List Ent}{i:Nat}{e:Ent}(h:E[i]?=some e):J5 K M J (E.take (i+1))=J5 K M J (E.take i)++(Ht K M J e).toList:=by
 grind[J5,List.take_add_one]
def Avn{K:List Ak}{M:List Int}{J:List Ak}{E:List Ent}{i:Nat}{e:Ent}(h:E[i]?=some e):Jc K M J (E.take (i+1))=Jc K M J (E.take i)++if(Ht K M J e).isNone then [e.own] else []:=by
 grind[Jc,List.take_add_one]
def Ae4{K:List Ak}{M:List Int}{J:List Ak}{e y:Ent}(h:Ht K M J e=some y):y.own=y/\y.sites.length=e.sites.length:=by
 unfold Ht at h
 cases hr:Ga K M e.sites with
 | none=>grind
 | some r=>
  rw[hr]at h;have h:=M5 h;subst h;refine⟨rfl,?_⟩
  grind[Avl,Adx]
def Bg0(K:List Ak)(M:List Int)(J:List Ak)(E:List Ent):L5 (J5 K M J E):=fun y hy=>by
 obtain⟨e,-,he⟩:=Ac8.1 hy;exact(Ae4 he).1
def Bg1(K:List Ak)(M:List Int)(J:List Ak)(E:List Ent):(J5 K M J E).length<=E.length:=List.length_filterMap_le _ _
def Ax4(K:List Ak)(M:List Int)(J:List Ak)(E:List Ent):(Jc K M J E).length<=E.length:=by
 grind[Jc]
def A04(N:Nat):Prop:=∀ {s:St},Cl s->∀ {i g:Nat} {w:Bool} (L:List Ent),L.length<=N->s[i]?=some (.row (K4 L) 43 g 0)->(∀ e∈L,e.sites.length<=1000) ->
  ∃ s',Th TT PT 22 [.sl i g 0 L.length 4 w,.fn 23 [] []] s (.tup []) s'/\∃ D:List Ent,D.Perm L/\Nl Im Ent.ks D/\s'=s.set i (.row (K4 D) 43 g 0)
set_option maxHeartbeats 4000000 in
def A7m{p q:Gp}(hp:PY p)(hq:PY q)(hM:∀ x∈Jr p q,x<((C7 q).length:Int))(z:Bool)(t:Nat)(n:Int)(E:List Ent)(hE:E.length<=900)(jW:A04 E.length)(hs:∀ e∈E,e.sites.length<=1000/\e.sites≠[])(ho:Uu E)(hv:Md n E=true)(hK:(C7 p).length<=1000000000000):
  Fn TT PT 7 [.agg [iV n,SL z t (E.map Ent.row)],.agg p.row,.agg q.row] (A15 n ((J5 (C7 p) (Jr p q) (C7 q) E).foldl Fp []) (Jc (C7 p) (Jr p q) (C7 q) E)):=by
 have g0:=Au0 z t n E ho;rw[hv]at g0;have g1:=Ase hp hq;have qR:(Jr p q).length=(C7 p).length:=by rw[Aed];exact A4g p q
 have g2:=fun(e:Ent) (he:e∈E)=>Bbq hp.px hq.px (Jr p q) qR hM e (hs e he).1 (hs e he).2 hK
 have jb:=F1 p;have jc:=F1 q;rw[jb]at g1 g2 ⊢;rw[jc]at g1 g2 ⊢;generalize C7 p=K at *;generalize C7 q=J at *;generalize Jr p q=M at *;have jJ:(E.map Ent.row).length=E.length:=Ar ..;refine Bg T7 rfl ?_;simp only[go_sem];refine Ab g0 AB ?_;simp only[go_sem];refine Ab g1 AB ?_;simp only[go_sem,jJ];obtain⟨σ0,jf⟩:∃ σ0:St,σ0=[.row [iV n,SL z t (E.map Ent.row)] 35 0 0,gO p,gO q,.row [iV 0,.nils] 35 0 0]:=⟨_,rfl⟩
 refine Bk (α:=Nat × V × V × St) (fun a=>E.length - a.1) (fun a=>[(4,.ptr 1 0 0),(5,.ptr 2 0 0),(6,.ptr 3 0 0),(9,SL true 0 (Bj M)),(10,.ptr 4 0 0),(11,a.2.2.1),(27,SL z t (E.map Ent.row)),(28,iV (E.length:Int)),(29,iV (a.1:Int))]) (fun a=>a.2.2.2)
  (fun a=>a.1<=E.length/\(∀ j,j<4->a.2.2.2[j]?=σ0[j]?)/\a.2.2.2[4]?=some (.row [iV n,a.2.1] 35 0 0)/\Cl a.2.2.2/\GW a.2.2.2 4 43 5 a.2.1 ((J5 K M J (E.take a.1)).map Ent.row)/\GW a.2.2.2 4 43 5 a.2.2.1 ((Jc K M J (E.take a.1)).map Ent.row)/\∀ j∈a.2.1.refs,j ∉ a.2.2.1.refs) ?_ (0,.nils,.nils,_) ⟨Ax _,fun j hj=>by grind,rfl,(by intro ob jw j hj;simp only[Bp,L8,or_false]at jw;rcases jw with rfl | rfl | rfl | rfl | rfl<;>simp[Ob.refs,Ag,V.refs,Rb (Hn _ _ _)]at hj),D3,D3,fun j hj=>by grind[V.refs]⟩
 rintro⟨i,uE,uL,s⟩ ⟨hi,hf,h4,qu,qe,qg,qI⟩ ih;simp only at hi hf h4 qu qe qg qI ih;refine Bd Brw ?_;have e1:=hf 1 AA;have e2:=hf 2 AA;have e3:=hf 3 AA;rw[jf]at e1 e2 e3;simp only[Wq,Q5]at e1 e2 e3;have je:=(Ao.1 h4).1;have jq:=Ax4 K M J (E.take i);have js:=Bg1 K M J (E.take i);rw[Iq]at jq js;rcases Bh i E.length with h | h
 .obtain⟨e,he,-,qw⟩:=Br h;have i1:IntKind.i64.wrap ((i:Int)+1)=((i+1:Nat):Int):=A2 AA;have qx:(E.map Ent.row)[i]?=some (eR e e.sl):=by rw[Au,he];rfl
  have gc:=g2 e qw;have qA:=Bbs (K:=K) (M:=M) (J:=J) he;have qL:=Avn (K:=K) (M:=M) (J:=J) he;simp only[Vo]at gc;have gA:∀ (j:Nat) (o:Ob) (X:St),s[j]?=some o->(s++X)[j]?=some o:=fun j o X h=>By h
  cases qt:Ht K M J e with
  | none=>
   rw[qt]at gc qA qL;unfold Ao1 at gc;simp only at gc;simp only[go_sem,Az h,qx,gA _ _ _ e1,gA _ _ _ e2];refine Ab gc AB ?_;simp only[go_sem];have jF:Fn TT PT 21 [e.sl] (SL true 0 (e.sites.map A0)):=Bav e.z e.t e.sites (hs e qw).2 (by grind);refine Ab jF AB ?_;obtain⟨u2,s2,a1,g5,l5,k5,r5,c5⟩:=Pa (bytes:=48) (y:=.lst 1 [(eR e (SL true 0 (e.sites.map A0)))]) (ys:=[(eR e (SL true 0 (e.sites.map A0)))]) (Ix (l:=[eO e (SL true 0 (e.sites.map A0)),Ob.row [iV 0,.nils,iV 0,iV 0] 43 0 0]) qg) (by grind) rfl AA (Gn _) AE (O1 [e.own]) (by grind);simp only[go_sem,a1,i1];have hk:∀ j,j<s.length->j ∉ uL.refs->s2[j]?=s[j]?:=fun j h1 h2=>by grind
   have qH:∀ j,j<5->j ∉ uL.refs:=fun j hj hm=>by have:=(Dl qg j hm).1;omega
   refine Av (ih (i+1,uE,u2,s2) AA ⟨h,fun j hj=>(hk j AA (qH j AA)).trans (hf j hj),(hk 4 AA (qH 4 AA)).trans h4,c5 ?_,?_,?_,fun j hj hm=>?_⟩) rfl
   .have:=Afn (t:=43) (cs:=[iV 0,.nils,iV 0,iV 0]) (Afn (t:=43) qu (O1 [e.own] _ B4)) rfl;rw[Bt]at this;exact this
   .simp only;rw[qA];simp only[Option.toList_none,Cc];exact Jq qe fun j hj=>hk j (Gr qe j hj) (qI j hj)
   .simp only;rw[qL];simp only[Option.isNone_none,if_pos,Fz];exact g5
   .rcases r5 j hm with h1 | h1
    .grind
    .have:=Gr qe j hj
     grind
  | some y=>
   rw[qt]at gc qA qL;unfold Ao1 at gc;simp only[Vo]at gc;obtain⟨u2,s2,a1,g5,l5,k5,r5,c5⟩:=Pa (bytes:=48) (y:=.lst 1 [(eR y y.sl)]) (ys:=[(eR y y.sl)]) (Ix (l:=[eO e e.sl,eO y y.sl]) qe) (by grind) rfl AA (Gn _) AE (O1 [y]) (by grind);have hk:∀ j,j<s.length->j ∉ uE.refs->s2[j]?=s[j]?:=fun j h1 h2=>by grind
   have qH:∀ j,j<5->j ∉ uE.refs:=fun j hj hm=>by have:=(Dl qe j hm).1;omega
   have jj:=(hk 4 AA (qH 4 AA)).trans h4;have cu:=N3 (Cg g5);have cv:=Cg g5;simp only[go_sem,Az h,qx,gA _ _ _ e1,gA _ _ _ e2];refine Ab gc AB ?_;simp only[go_sem,gA _ _ _ h4,a1,jj,cu,cv,i1];refine Av (ih (i+1,u2,uL,_) AA ⟨h,fun j hj=>?_,Cr (Ao.1 jj).1,F9 (c5 ?_) ?_,?_,?_,fun j hj hm=>?_⟩) rfl
   .simp only;rw[Ce AA]
    grind
   .have:=Afn (t:=43) (Afn (t:=43) qu (O1 [e] _ B4)) (O1 [y] _ B4);rw[Bt]at this;exact this
   .intro j hj;exact Gr g5 j (by simpa[Ob.refs,Ag,V.refs] using hj)
   .simp only;rw[qA];simp only[Ac9,Fz];exact D4 g5 AA
   .simp only;rw[qL];simp only[Option.isNone_some,Hg,if_false,Cc];exact D4 (Jq qg fun j hj=>hk j (Gr qg j hj) fun h1=>qI j h1 hj) AA
   .rcases r5 j hj with h1 | h1
    .grind
    .have:=Gr qg j hm
     grind
 have qV:i=E.length:=by omega
 subst qV;rw[Dq]at qe qg jq js;have jN:=Bg0 K M J E
 have jo:∀ y∈J5 K M J E,y.sites.length<=1000:=fun y hy=>by
  obtain⟨e,qw,he⟩:=Ac8.1 hy;rw[(Ae4 he).2]
  grind
 generalize J5 K M J E=X at *;generalize Jc K M J E=Y at *
 obtain⟨s1,s2,c1,c2,hk⟩:∃ s1 s2,CallS TT PT 22 [uE,.fn 23 [] []] s (.tup []) s1/\CallS TT PT 25 [uE] s1 (SL true 0 ((X.foldl Fp []).map Ent.row)) s2/\∀ j,j ∉ uE.refs->s1[j]?=s[j]?/\s2[j]?=s[j]?:=by
  have jD:∀ (s1:St) (D:List Ent),D.Perm X->Nl Im Ent.ks D->GW s1 4 43 5 uE (D.map Ent.row)->∃ s2,CallS TT PT 25 [uE] s1 (SL true 0 ((X.foldl Fp []).map Ent.row)) s2/\∀ j,j ∉ uE.refs->s2[j]?=s1[j]?:=fun s1 D hp hl hg=>by
   have gm:=A7l true 0 D (by rw[hp.length_eq];omega) fun e he=>jo e (hp.mem_iff.1 he)
   rw[Ban jN hp hl]at gm;obtain⟨s2,ha,-,qU⟩:=Aj7 hg (O1 _) (args:=[uE]) (v:=SL true 0 ((X.foldl Fp []).map Ent.row)) (by simp[Ag]);refine⟨s2,?_,qU⟩;rw[<-ha];exact .pure (Afa (.cons (Vl (Mj hg AA (Gn _) (O1 _)) (Cg hg)) .nil)) gm
  rcases qe with⟨rfl,qr⟩ | ⟨qr,o,g,rfl,ja,qn⟩
  .have qr:X=[]:=by simpa using qr
   subst qr;obtain⟨s1,h1,rfl⟩:=A7k qu;obtain⟨s2,h2,h3⟩:=jD s1 [] (.refl _) .nil D3;exact⟨s1,s2,.thr h1,h2,fun j hj=>⟨rfl,h3 j hj⟩⟩
  .rw[Ar]at *;obtain⟨s1,h1,D,hp,hl,rfl⟩:=jW qu (w:=true) X AA ja jo
   obtain⟨s2,h2,h3⟩:=jD _ D hp hl (.inr ⟨fun e=>qr (by
    simp_all),o,g,by rw[Ar,hp.length_eq],Cr (Ao.1 ja).1,qn⟩)
   refine⟨_,s2,.thr h1,h2,fun j hj=>?_⟩
   grind[V.refs]
 have qP:∀ j,j<5->j ∉ uE.refs:=fun j hj hm=>by have:=(Dl qe j hm).1;omega
 have q4:=(hk 4 (qP 4 AA)).1.trans h4;have r4:=(hk 4 (qP 4 AA)).2.trans h4;have r3:=(hk 3 (qP 3 AA)).2.trans e3;simp only[go_sem,Bl h,h4];refine Jg c1 ?_;simp only[go_sem,q4];refine Jg c2 ?_;have w4:=fun X:Ob=>Cr (a:=X) (Ao.1 r4).1
 have w3:∀ X:Ob,(s2.set 4 X)[3]?=some (.row [iV 0,.nils] 35 0 0):=fun X=>(Ce AA).trans r3
 have kc:=fun X Z:Ob=>Cr (l:=s2.set 4 X) (i:=3) (a:=Z) (by grind)
 simp only[go_sem,r4,w4,w3,kc];refine Bgz (D4 (D4 (Jq qg fun j hj=>(hk j fun h1=>qI j h1 hj).2) AA) AA) AA (Gn _) (O1 _) ?_;simp only[B5,Db,Hn];rfl
theorem Bg2(out:List Ent)(y:Ent):(Fp out y).length<=out.length+1:=by
 grind[Fp]
def Avo:∀ (L out:List Ent),(L.foldl Fp out).length<=out.length+L.length
 | [],_=>Aj _
 | e::L,out=>by
  have h1:=Avo L (Fp out e)
  grind[Bg2]
def Bbt{out:List Ent}{y:Ent}(h:Ho y out=false):Fp out y=out.take (Dd y out)++y::out.drop (Dd y out):=by
 simp_all [Fp]
def Ad0{c:List Int->List Int->Int}(hc:Lin c)(l:List Int):∀ (is:List Nat) (b:List Int),(N5 (fun x y=>decide (c x y<0)) l is b=b\/∃ i∈is,N5 (fun x y=>decide (c x y<0)) l is b=E7 l i)/\¬ c b (N5 (fun x y=>decide (c x y<0)) l is b)<0/\∀ i∈is,¬ c (E7 l i) (N5 (fun x y=>decide (c x y<0)) l is b)<0
 | [],b=>⟨.inl rfl,fun h=>hc.asym h h,fun i hi=>by cases hi⟩
 | i::is,b=>by
  rw[N5];by_cases h:c (E7 l i) b<0
  .rw[decide_eq_true h,if_pos rfl];obtain⟨h1,h2,h3⟩:=Ad0 hc l is (E7 l i);refine⟨.inr ?_,fun h4=>h2 (hc.trans _ _ _ h h4),fun j hj=>?_⟩
   .rcases h1 with h1 | ⟨j,hj,h1⟩
    .exact⟨i,B4,h1⟩
    .exact⟨j,Cb _ hj,h1⟩
   .rcases Bp.1 hj with rfl | hj
    .exact h2
    .exact h3 j hj
  .rw[decide_eq_false h,if_neg AE];obtain⟨h1,h2,h3⟩:=Ad0 hc l is b;refine⟨h1.imp id fun⟨j,hj,e⟩=>⟨j,Cb _ hj,e⟩,h2,fun j hj=>?_⟩;rcases Bp.1 hj with rfl | hj
   .intro h4;rcases hc.tri (E7 l j) b with h5 | h5 | h5
    .exact h h5
    .rw[h5]at h4;exact h2 h4
    .exact h2 (hc.trans _ _ _ h5 h4)
   .exact h3 j hj
def Bbu(l:List Int){i j:Nat}(hi:i<=l.length)(hj:j<=l.length):∃ k,k<=l.length/\E7 (E7 l i) j=E7 l k:=by
 have hd:(l.drop i).length=l.length - i:=Gz;have ht:(l.take i).length=i:=by rw[Iq];omega
 unfold E7;rcases Bh (l.length - i) j with h | h
 .obtain⟨m,hm⟩:∃ m,m=j - (l.length - i):=⟨_,rfl⟩;refine⟨m,by omega,?_⟩;have e1:(l.drop i++l.take i).drop j=(l.take i).drop m:=by rw[Wy,hd,D1 AA,Ba,hm]
  have e2:(l.drop i++l.take i).take j=l.drop i++(l.take i).take m:=by rw[List.take_append,hd,Ic (l:=l.drop i) AA,hm]
  have e3:(l.take i).drop m++l.drop i=l.drop m:=by
   conv=>rhs;rw[<-Nn i l]
   rw[Wy,ht,show m - i=0 by omega,Jf]
  rw[e1,e2,<-Bt,e3,List.take_take,W0 AA]
 .refine⟨i+j,by omega,?_⟩;rw[Wy,List.take_append,hd,show j - (l.length - i)=0 by omega,Jf,Adg,Cc,Zi,Bt,List.take_add]
def A7n(l:List Int):Gv (Gv l)=Gv l:=by
 have hc:Lin Mt:=Akr Alu;obtain⟨h1,h2,h3⟩:=Ad0 hc l (List.range l.length) l
 have hr:∃ i,i<=l.length/\Gv l=E7 l i:=by
  rcases h1 with h1 | ⟨i,hi,h1⟩
  .exact⟨0,by omega,by rw[A6f];exact h1⟩
  .exact⟨i,by have:=Eg.1 hi;omega,h1⟩
 have hm:∀ k,k<=l.length->¬ Mt (E7 l k) (Gv l)<0:=fun k hk=>by
  rcases Bh k l.length with h | h
  .exact h3 k (Eg.2 h)
  .have:E7 l k=l:=by unfold E7;rw[D1 h,Ic h,Ba]
   rw[this];exact h2
 obtain⟨i,hi,qM⟩:=hr;have qc:(Gv l).length=l.length:=by rw[qM,Aaf]
 obtain⟨g1,g2,g3⟩:=Ad0 hc (Gv l) (List.range (Gv l).length) (Gv l)
 have hq:∃ k,k<=l.length/\Gv (Gv l)=E7 l k:=by
  rcases g1 with g1 | ⟨j,hj,g1⟩
  .exact⟨i,hi,g1.trans qM⟩
  .have hj:=Eg.1 hj;obtain⟨k,hk,e⟩:=Bbu l hi (j:=j) AA;refine⟨k,hk,g1.trans ?_⟩;rw[qM];exact e
 obtain⟨k,hk,e⟩:=hq;rcases hc.tri (Gv (Gv l)) (Gv l) with h | h | h
 .rw[e]at h;exact absurd h (hm k hk)
 .exact h
 .exact absurd h g2
def A4y(l:List Int):I5 (I5 l)=I5 l:=List.mergeSort_of_pairwise ((A7e l).imp fun h=>decide_eq_true h)
def A7o(k:Int)(l:List Int):Hs k (Hs k l)=Hs k l:=by
 unfold Hs
 split
 .exact A4y l
 .split
  .exact A7n l
  .rfl
def F5(K:List Ak):List Int:=(List.range K.length).map fun i:Nat=>(i:Int)
def Bl4{K:List Ak}{s:Nat}(h:s<K.length):(F5 K).getD s (-1)=(s:Int):=by
 unfold F5;rw[Ef,Au,List.getElem?_range h];rfl
def Bl5(K:List Ak):∀ x∈F5 K,x<(K.length:Int):=fun x hx=>by
 obtain⟨i,hi,rfl⟩:=Cs.1 hx;have:=Eg.1 hi;omega
def Avp{K:List Ak}(k:Ak):Ih K (F5 K) k=Jv K k:=by
 unfold Ih
 cases h:Jv K k with
 | none=>rfl
 | some s=>
  have hs:=(Ao.1 (U6.1 h).1).1;simp only[Bl4 hs];rw[if_neg AA];simp
def A7p{K:List Ak}(e:Ent):(Ht K (F5 K) K e).isNone=e.sites.any fun k=>decide (sI K k<0):=by
 refine Bool.eq_iff_iff.2 ?_;unfold Ht;rw[Option.isNone_map,Option.isNone_iff_eq_none,Adq,Ns];refine exists_congr fun k=>and_congr_right fun hk=>?_
 rw[Avp,decide_eq_true_eq];unfold sI
 cases Jv K k with
 | none=>simp
 | some s=>simp
def Acm(K:List Ak)(y:Ent):Prop:=∃ r:List Nat,(∀ n∈r,n<K.length)/\y.sites=(Hs y.kind (r.map fun n:Nat=>(n:Int))).map fun s=>K.getD s.toNat kz
def Ax5{K:List Ak}{e y:Ent}(h:Ht K (F5 K) K e=some y):Acm K y/\y.kind=e.kind/\y.seen=e.seen/\y.missed=e.missed/\y.own=y:=by
 have ho:=(Ae4 h).1;unfold Ht at h;obtain⟨r,hr,rfl⟩:=Cf.1 h;exact⟨⟨r,fun n hn=>by have:=Aj8 (Bl5 K) hr n hn;omega,rfl⟩,rfl,rfl,rfl,ho⟩
def Bbv{K:List Ak}(hd:K.Nodup){s:Nat}(h:s<K.length):Jv K (K.getD s kz)=some s:=by
 rw[Ef,B9 h,Q8,U6];refine⟨B9 h,fun j hj e=>?_⟩;obtain⟨qX,e⟩:=Ao.1 e;exact Wp.1 hd j s qX h hj e
def Ash{K:List Ak}(hd:K.Nodup):∀ L:List Int,(∀ x∈L,0<=x/\x<(K.length:Int))->Ga K (F5 K) (L.map fun s=>K.getD s.toNat kz)=some (L.map Int.toNat)
 | [],_=>rfl
 | x::L,h=>by
  have hx:=h x B4;rw[Aw,Ga,Avp,Bbv hd AA];simp only;rw[Ash hd L fun y hy=>h y (Cb _ hy)];rfl
def A7q{K:List Ak}(hd:K.Nodup){y:Ent}(hy:Acm K y)(ho:y.own=y):Ht K (F5 K) K y=some y:=by
 obtain⟨r,hr,hs⟩:=hy
 have hL:∀ x∈Hs y.kind (r.map fun n:Nat=>(n:Int)),0<=x/\x<(K.length:Int):=Ak5 fun x hx=>by
  obtain⟨n,hn,rfl⟩:=Cs.1 hx;have:=hr n hn;omega
 have e1:((Hs y.kind (r.map fun n:Nat=>(n:Int))).map Int.toNat).map (fun n:Nat=>(n:Int))=Hs y.kind (r.map fun n:Nat=>(n:Int)):=by
  rw[Q9]
  conv=>rhs;rw[<-List.map_id (Hs y.kind (r.map fun n:Nat=>(n:Int)))]
  refine Ac5 fun x hx=>?_
  have:=(hL x hx).1;show((x.toNat:Nat):Int)=x;omega
 unfold Ht;rw[hs,Ash hd _ hL,Ir,e1,A7o,<-hs];exact congrArg some ho
def Avq{P:Ent->Prop}(hj:∀ x y,P x->P y->P (Mx x y)):∀ (L out:List Ent),(∀ x∈out,P x)->(∀ x∈L,P x)->∀ x∈L.foldl Fp out,P x
 | [],_,h,_=>h
 | e::L,out,h,hL=>by
  rw[So];refine Avq hj L _ (fun x hx=>?_) fun x hx=>hL x (Cb _ hx)
  have he:=hL e B4;unfold Fp at hx
  split at hx
  .obtain⟨i,hi⟩:=Aib.1 hx;rw[List.getElem?_modify]at hi;obtain⟨z,hz,rfl⟩:=Cf.1 hi
   split
   .exact hj z e (h z (F7 hz)) he
   .exact h z (F7 hz)
  .rcases Cu.1 hx with hx | hx
   .exact h x (Np hx)
   .rcases Bp.1 hx with rfl | hx
    .exact he
    .exact h x (Ws hx)
def Bg3{l:List Ent}:Hw l↔Ps Im (l.map Ent.tri):=by
 unfold Hw Ps;rw[List.pairwise_map];exact Iff.rfl
def Bbw(L:List Ent):Hw (L.foldl Fp []):=by
 rw[Bg3,Aky];exact Arx lin_p _ _ .nil
def Asi:∀ (B A:List Ent),Hw (A++B)->B.foldl Fp A=A++B
 | [],A,_=>by simp
 | b::B,A,h=>by
  have h1:∀ x∈A,Cv x b<0:=fun x hx=>(Zd.1 h).2.2 x hx b B4
  have hp:∀ l:List Ent,(∀ x∈l,Cv x b<0)->Dd b l=l.length:=fun l=>by
   induction l with
   | nil=>intro _;rfl
   | cons x l ih=>
    intro hl;rw[Dd,if_pos (hl x B4),ih fun y hy=>hl y (Cb _ hy)];rfl
  have ht:Ho b A=false:=by unfold Ho;rw[hp A h1,List.getElem?_eq_none (Aj _)]
  rw[So,Bbt ht,hp A h1,Dq,List.drop_length,Asi B (A++[b]) (by simpa using h)];simp
def Ax6(K:List Ak)(M:List Int)(J:List Ak):∀ E:List Ent,(J5 K M J E).length+(Jc K M J E).length=E.length
 | []=>rfl
 | e::E=>by
  have ih:=Ax6 K M J E;unfold J5 Jc at ih ⊢;rw[Nq,List.filter_cons]
  cases h:Ht K M J e<;>simp at ih ⊢<;>omega
def A4z{K:List Ak}(hd:K.Nodup){X:List Ent}(hX:∀ y∈X,Acm K y/\y.own=y):J5 K (F5 K) K X=X/\Jc K (F5 K) K X=[]:=by
 have h:∀ y∈X,Ht K (F5 K) K y=some y:=fun y hy=>A7q hd (hX y hy).1 (hX y hy).2
 constructor
 .unfold J5;clear hX
  induction X with
  | nil=>rfl
  | cons x X ih=>rw[Nq,h x B4];simp only;rw[ih fun y hy=>h y (Cb _ hy)]
 .unfold Jc;rw[List.filter_eq_nil_iff.2 fun y hy=>by rw[h y hy];simp];rfl
