/- Walks: an entry carried over to the other version. -/
import Derived.Test.YtphikjgngompaaaGreatDoorVe
set_option linter.all false
namespace Go.Proofs.YtphikjgngompaaaGreatDoor.KM
open Go
def Ap4{ks:List Aj}{m:List Int}{k:Aj}:∀ l:List Aj,Gs ks m (l++[k])=(Gs ks m l).bind fun r=>(H0 ks m k).map fun n=>r++[n]
 | []=>by
  grind[Gs]
 | a::l=>by
  rw[Bt,Gs,Gs,Ap4 l]
  cases H0 ks m a with
  | none=>rfl
  | some n=>
   simp only
   cases Gs ks m l with
   | none=>rfl
   | some r=>cases H0 ks m k<;>rfl
def Ask{ks:List Aj}{m:List Int}{b:Int}(hm:∀ x∈m,x<b):∀ {l:List Aj} {r:List Nat},Gs ks m l=some r->∀ n∈r,(n:Int)<b
 | [],r,h,n,hn=>by
  grind[Gs]
 | k::l,r,h,n,hn=>by
  rw[Gs]at h
  cases h1:H0 ks m k with
  | none=>grind
  | some n'=>
   rw[h1]at h;simp only at h
   cases h2:Gs ks m l with
   | none=>grind
   | some r'=>
    rw[h2]at h;rw[<-Lb h]at hn;rcases Bp.1 hn with rfl | hn
    .unfold H0 at h1
     split at h1
     .rename_i s hs
      split at h1
      .cases h1
      .rename_i h3
       cases h4:m[s]? with
       | none=>grind
       | some x=>
        rw[D3,h4,Sv]at h1 h3;have:=hm x (Gx h4)
        grind
     grind
    .exact Ask hm h2 n hn
def I8(K:List Aj)(M:List Int)(J:List Aj)(e:Ent):Option Ent:=(Gs K M e.sites).map fun r=>⟨e.kind,(N8 e.kind (r.map fun n:Nat=>(n:Int))).map (fun s=>J.getD s.toNat kz),e.seen,e.missed,true,0⟩
def Ao2:Option Ent->V
 | some y=>.tup [.agg y.row,.bool true]
 | none=>.tup [.agg [.int .i64 0,.nils,.int .i64 0,.int .i64 0],.bool false]
def Bbj{P:Int->Prop}{kind:Int}{L:List Int}(h:∀ x∈L,P x):∀ x∈N8 kind L,P x:=by
 unfold N8
 split
 .grind[Aq2]
 .split
  .exact Ajh (P:=fun l=>∀ x∈l,P x) (fun i x hx=>h x (Baf hx)) _ _ h
  omega
theorem Avl(kind:Int)(L:List Int):(N8 kind L).length=L.length:=by
 unfold N8
 split
 .simp[Z3]
 .split
  .exact Ajh (P:=fun l=>l.length=L.length) (fun i=>Ae3 L i) _ _ rfl
  .rfl
inductive IntsL (s:St) (L:List Int):V->Prop
 | set {z:Bool} {t:Nat}:IntsL s L (SL z t (Bb L))
 | obj {i g e:Nat}:s[i]?=some (.row (Cv L) e g 0)->4<=i->IntsL s L (.sl i g 0 L.length 1 true)
def Ak7{s:St}{u:V}{L:List Int}(h:IntsL s L u):Mt u=some (iV (L.length:Int)):=by
 cases h with
 | set=>rw[Af8,Hj]
 | obj _ _=>grind[Anj]
def ilo{L:List Int}{e g j:Nat}{r:Int}(hr:L[j]?=some r):L5 (some (.row (Cv L) e g 0)) g 1 true j=some (iV r):=by
 have h5:(Cv L)[j]?=some (iV r):=by
  unfold Cv;rw[As,hr];rfl
 have h6:=(Al.1 h5).1;rw[Ab4,if_pos ⟨rfl,by omega⟩,Hv h6,(Al.1 h5).2];rfl
def Ak8{J:List Aj}{q:Gp}(gk:∀ (s:Nat) (k:Aj),J[s]?=some k->Fn TT PT 22 [.agg (gR q),iV (s:Int)] (.tup [.agg (kR k),.bool true]))
  {L:List Int} (hL:∀ x∈L,0<=x/\x<(J.length:Int)) (kx:L.length<=1000) {v:V} {s0:St} (hv:IntsL s0 L v) (h4:4<=s0.length)
  (h2:s0[2]?=some (gO q))
  {kd sn ms:Int} {k0:List It} {Q:Env->St->Prop}
  (qa:∀ (u:V) (s:St),(∀ i,i<s0.length->s[i]?=s0[i]?)->s[s0.length]?=some (.row [iV kd,u,iV sn,iV ms] 43 0 0)->GW s 3 45 (s0.length+1) u ((L.map fun x=>J.getD x.toNat kz).map Aw)->W TT PT k0 [(6,.ptr 2 0 0),(8,.ptr 3 0 0),(14,.ptr s0.length 0 0),(74,v),(75,iV (L.length:Int)),(76,iV (L.length:Int))] s Q) :
  W TT PT (.l [6,8,14,74,75,76] lp24_1::.b 3::k0) [(6,.ptr 2 0 0),(8,.ptr 3 0 0),(14,.ptr s0.length 0 0),(74,v),(75,iV (L.length:Int)),(76,iV 0)] (s0++[.row [iV kd,.nils,iV sn,iV ms] 43 0 0]) Q:=by
 refine Bk (α:=Nat × V × St) (fun a=>L.length - a.1) (fun a=>[(6,.ptr 2 0 0),(8,.ptr 3 0 0),(14,.ptr s0.length 0 0),(74,v),(75,iV (L.length:Int)),(76,iV (a.1:Int))]) (fun a=>a.2.2)
  (fun a=>a.1<=L.length/\(∀ i,i<s0.length->a.2.2[i]?=s0[i]?)/\a.2.2[s0.length]?=some (.row [iV kd,a.2.1,iV sn,iV ms] 43 0 0)/\GW a.2.2 3 45 (s0.length+1) a.2.1 (((L.take a.1).map fun x=>J.getD x.toNat kz).map Aw)) ?_ (0,.nils,_) ⟨Ax _,fun i hi=>Eb hi,Oy _ _,Ds⟩
 rintro⟨j,u,s⟩ ⟨hj,hk,ho,hg⟩ jh;simp only at hj hk ho hg jh;refine Bd Bos ?_;rcases Bh j L.length with h | h;rotate_left
 .have jq:j=L.length:=by omega
  subst jq;rw[Db]at hg;simp only[go_sem,Bl h];exact qa u s hk ho hg
 obtain⟨x,hx,-,ke⟩:=Bq h;obtain⟨vy,vz⟩:=hL x ke;obtain⟨r,rfl⟩:∃ r:Nat,x=r:=⟨x.toNat,by omega⟩;obtain⟨k,js,-,-⟩:=Bq (l:=J) (i:=r) AA;have j1:IntKind.i64.wrap ((j:Int)+1)=((j+1:Nat):Int):=A1 AA;have qf:=(Al.1 ho).1
 have jc:((L.take (j+1)).map fun x=>J.getD x.toNat kz).map Aw=((L.take j).map fun x=>J.getD x.toNat kz).map Aw++[(kR k)]:=by
  rw[Ic,hx];simp only[Su,F0,Az,Bz,Nk,D3,js];rfl
 have ja:=(hk 2 AA).trans h2;obtain⟨u2,s5,e5,g5,l5,-,k5⟩:=Hz (bytes:=40) (y:=.lst 1 [(kR k)]) (ys:=[(kR k)]) (Gm (l:=[Ob.row (kR k) 45 0 0]) hg) (by grind) rfl AA (Gz _) AE (by grind);have qy:∀ X,(s++[X])[s0.length]?=some (.row [iV kd,u,iV sn,iV ms] 43 0 0):=fun X=>Bs ho
 have jX:=(k5 s0.length AA).trans (qy _);have cu:=Nv (Ce g5);have cv:=Ce g5
 have jD:W TT PT (.l [6,8,14,74,75,76] lp24_1::.b 3::k0) [(6,.ptr 2 0 0),(8,.ptr 3 0 0),(14,.ptr s0.length 0 0),(74,v),(75,iV (L.length:Int)),(76,iV ((j+1:Nat):Int))] (s5.set s0.length (.row [iV kd,u2,iV sn,iV ms] 43 0 0)) Q:=by
  refine jh (j+1,u2,_) AA ⟨h,fun i hi=>?_,?_,?_⟩
  .grind[List.getElem?_set_ne]
  .grind
  .grind[D5]
 cases hv with
 | set=>
  have vf:(Bb L)[j]?=some [iV (r:Int)]:=by unfold Bb;rw[As,hx];rfl
  simp only[go_sem,Ay h,vf,ja];refine Ab (gk r k js) AB ?_;simp only[go_sem,qy,e5,jX,cu,cv,j1];exact Aq jD rfl
 | obj hvo hv4=>
  have vd:=(hk _ (Al.1 hvo).1).trans hvo;simp only[go_sem,Ay h,Md h,vd,ilo hx,ja];refine Ab (gk r k js) AB ?_;simp only[go_sem,qy,e5,jX,cu,cv,j1];exact Aq jD rfl
set_option maxHeartbeats 4000000 in
def Bbk{p q:Gp}(hp:PX p)(hq:PX q)(M:List Int)(jg:M.length=(Ch p).length)(hM:∀ x∈M,x<((Ch q).length:Int))(e:Ent)(hs:e.sites.length<=1000)(jW:e.sites≠[])(hK:(Ch p).length<=1000000000000):
  Fn TT PT 24 [.agg e.row,.agg p.row,.agg q.row,SL true 0 (Bb M)] (Ao2 (I8 (Ch p) M (Ch q) e)):=by
 have gs:=fun k=>Al7 hp k hK
 have gk:=fun(s:Nat) (k:Aj) (h:(Ch q)[s]?=some k)=>Avg hq h
 have qs:=Fv p;have jw:=Fv q;rw[qs]at gs ⊢;rw[jw]at gk ⊢;generalize Ch p=K at *;generalize Ch q=J at *;have jM:=Hj M;have kD:(e.sites.map Aw).length=e.sites.length:=Au ..
 have qp:∀ (j:Nat) (k:Aj),e.sites[j]?=some k->Lu 3 e.sl (iV (j:Int))=some (.imm (kR k) 0):=fun j k hk=>by
  simp_all [Aw,Ent.sl,Abk,Afg]
 have jj:Mt e.sl=some (iV (e.sites.length:Int)):=by unfold Ent.sl;rw[Af8,kD]
 have kF:e.sl.cellB=true:=by unfold Ent.sl;exact Td ..
 have kA:(e.sites.length*8<=140737488355328)=True:=eq_true AA;obtain⟨σ0,jC⟩:∃ σ0:St,σ0=[eO e e.sl,gO p,gO q,.row [iV 0,.nils,iV 0,iV 0] 43 0 0]:=⟨_,rfl⟩;refine Bj T24 rfl ?_;unfold Ent.row;simp only[go_sem,kA,jj]
 refine Bk (α:=Nat × V × St × List Nat) (fun a=>e.sites.length - a.1) (fun a=>[(3,SL true 0 (Bb M)),(4,.ptr 0 0 0),(5,.ptr 1 0 0),(6,.ptr 2 0 0),(8,.ptr 3 0 0),(10,a.2.1),(24,e.sl),(25,iV (e.sites.length:Int)),(26,iV (a.1:Int))]) (fun a=>a.2.2.1)
  (fun a=>a.1<=e.sites.length/\Gs K M (e.sites.take a.1)=some a.2.2.2/\(∀ j,j<4->a.2.2.1[j]?=σ0[j]?)/\4<=a.2.2.1.length/\GV a.2.2.1 1 3 4 a.2.1 (Bb (a.2.2.2.map fun n:Nat=>(n:Int)))) ?_ (0,_,_,[]) ⟨Ax _,rfl,fun j hj=>by grind,by simp,.inr ⟨4,0,rfl,rfl,Ak _⟩⟩
 rintro⟨i,u,s,r⟩ ⟨hi,hc,h0,qQ,hg⟩ ih;simp only at hi hc h0 qQ hg ih;refine Bd Bor ?_;have e1:=h0 1 AA;have e3:=h0 3 AA;have e0:=h0 0 AA;have e2:=h0 2 AA;rw[jC]at e0 e1 e2 e3;simp only[Ww,Q3]at e0 e1 e2 e3;rcases Bh i e.sites.length with h | h
 .obtain⟨k,hk,-,jt⟩:=Bq h;have i1:IntKind.i64.wrap ((i:Int)+1)=((i+1:Nat):Int):=A1 AA;have jc:e.sites.take (i+1)=e.sites.take i++[k]:=by rw[Ic,hk];rfl
  have hA:∀ X,(s++[X])[1]?=some (gO p):=fun X=>Bs e1
  have jG:∀ X,(s++[X])[3]?=some (.row [iV 0,.nils,iV 0,iV 0] 43 0 0):=fun X=>Bs e3
  have qt:=gs k;unfold sI at qt
  have ql:H0 K M k=none->I8 K M J e=none:=fun h1=>by
   unfold I8;rw[Adz.2 ⟨k,jt,h1⟩];rfl
  have qc:∀ X Y:Ob,((s++[X]).set 3 Y)[3]?=some Y:=fun X Y=>Cm (by grind)
  have next:Gs K M (e.sites.take (i+1))=(H0 K M k).map fun n=>r++[n]:=by rw[jc,Ap4,hc,C8]
  cases qh:F9 K k with
  | none=>
   have qH:H0 K M k=none:=by unfold H0;rw[qh]
   rw[qh]at qt;rw[ql qH];simp only[go_sem,Ay h,qp i k hk,hA];refine Ab qt AB ?_;simp only[go_sem,jG,qc];exact Gr AK
  | some s'=>
   rw[qh]at qt;have jx:s'<M.length:=by rw[jg];exact(Al.1 (Ot.1 qh).1).1
   obtain⟨m,hm,-,qN⟩:=Bq jx;have qx:(Bb M)[s']?=some [iV m]:=by unfold Bb;rw[As,hm];rfl
   have jR:M.getD s' (-1)=m:=by rw[D3,hm];rfl
   have f3:((s':Int)<0)=False:=eq_false AA;have f4:((s':Int)>=(M.length:Int))=False:=eq_false AA;by_cases qg:m<0
   .have f5:(m<0)=True:=eq_true qg;have qH:H0 K M k=none:=by unfold H0;rw[qh];simp only[jR];rw[if_pos qg]
    rw[ql qH];simp only[go_sem,Ay h,qp i k hk,hA];refine Ab qt AB ?_;simp only[go_sem,f3,jM,f4,Ay jx,qx,f5,jG,qc];exact Gr AK
   .have f5:(m<0)=False:=eq_false qg;have qH:H0 K M k=some m.toNat:=by unfold H0;rw[qh];simp only[jR];rw[if_neg qg]
    rw[qH]at next
    have qA:=Ad6 hc;rw[Ip]at qA;obtain⟨v2,s3,ki,g3,l3,-,k3⟩:=Ame (bytes:=8) (y:=.lst 1 [[iV m]]) (ys:=[[iV m]]) (Bdg (l:=[Ob.row (kR k) 45 0 0]) hg) (by grind) rfl AA (O3 _) AE (by rw[Hj];simp;omega);simp only[go_sem,Ay h,qp i k hk,hA];refine Ab qt AB ?_;simp only[go_sem,f3,jM,f4,Ay jx,qx,f5,ki,i1];refine Aq (ih (i+1,v2,s3,r++[m.toNat]) AA ⟨h,next,fun j hj=>?_,by grind,?_⟩) rfl
    .simp only;rw[k3 j AA,Eb AA]
     grind
    .simp only;rw[F0,Akb,Az,Bz,Zh AA];exact g3
 have qK:i=e.sites.length:=by omega
 subst qK;rw[Db]at hc;have qA:=Ad6 hc;have qG:I8 K M J e=some ⟨e.kind,(N8 e.kind (r.map fun n:Nat=>(n:Int))).map (fun s=>J.getD s.toNat kz),e.seen,e.missed,true,0⟩:=by unfold I8;rw[hc];rfl
 have vw:∀ n∈r,(n:Int)<(J.length:Int):=Ask hM hc
 have qU:∀ x∈N8 e.kind (r.map fun n:Nat=>(n:Int)),0<=x/\x<(J.length:Int):=Bbj fun x hx=>by
  obtain⟨n,hn,rfl⟩:=Cy.1 hx
  grind
 have vl:(N8 e.kind (r.map fun n:Nat=>(n:Int))).length=e.sites.length:=by rw[Avl,Au,qA]
 have ka:(r.map fun n:Nat=>(n:Int))≠[]:=fun e1=>by
  have h1:=congrArg List.length e1
  grind
 have kx:(r.map fun n:Nat=>(n:Int)).length=e.sites.length:=by rw[Au,qA]
 rw[qG];clear qG;generalize(r.map fun n:Nat=>(n:Int))=L at *;rcases hg with⟨-,hg⟩ | ⟨ii,g,rfl,ho,qj⟩
 .exact absurd (by grind[Bb,List.map_eq_nil_iff]) ka
 have qq:GW s 1 3 4 (.sl ii g 0 (Bb L).length 1 true) (Bb L):=.inr ⟨by simp_all [Bb],ii,g,rfl,ho,qj⟩;have jo:=(Al.1 ho).1;rw[Hj]at qq ⊢;rw[Ahp]at ho;generalize hZ:N8 e.kind L=Z at *;by_cases qL:e.kind=1
 .have qF:Z=Gt L:=by rw[<-hZ];unfold N8;rw[if_pos qL]
  clear hZ;subst qF
  have q1:Wi [.sl ii g 0 L.length 1 true] s=some (.tup [],s.set ii (.row (Cv (Gt L)) 3 g 0)):=by
   simp only[Wi,ho,Aew];rw[if_pos ⟨trivial,trivial,by omega⟩]
  have f1:(e.kind==1)=true:=by simpa using qL
  simp only[go_sem,Bl h,e0,f1];refine Ig (.spec T20 rfl rfl q1) ?_;have qk:∀ j,j<4->(s.set ii (.row (Cv (Gt L)) 3 g 0))[j]?=s[j]?:=fun j hj=>Cc AA
  have hv:IntsL (s.set ii (.row (Cv (Gt L)) 3 g 0)) (Gt L) (.sl ii g 0 L.length 1 true):=by
   rw[<-Z3 L];exact .obj (Cm jo) qj
  have qR:=Ak7 hv;have qO:4<=(s.set ii (.row (Cv (Gt L)) 3 g 0)).length:=by simp;omega
  generalize s.set ii (.row (Cv (Gt L)) 3 g 0)=s2 at *;generalize V.sl ii g 0 L.length 1 true=v at *;have q0:=(qk 0 AA).trans e0;have q2:=(qk 2 AA).trans e2;have q3:=(qk 3 AA).trans e3;simp only[go_sem,q0,qR];refine Aq (Ak8 gk qU AA hv qO q2 fun u s3 qM qP qc=>?_) rfl;have qn:=(qM 3 AA).trans q3;have qB:=Ce qc;have qC:=fun X:Ob=>Cm (a:=X) (Al.1 qn).1
  simp only[go_sem,qP,qn,qB,qC];exact Aj6 (pre:=[iV e.kind]) (post:=[iV e.seen,iV e.missed]) (D5 qc AA) AA (Gz _) (M3 _) rfl rfl rfl
 have f1:(e.kind==1)=false:=by simpa using qL
 by_cases qX:e.kind=2
 .have qF:Z=R8 L:=by rw[<-hZ];unfold N8;rw[if_neg qL,if_pos qX];rfl
  clear hZ;subst qF;have f2:(e.kind==2)=true:=by simpa using qX
  have g5:=Bgl true 0 L ka AA;obtain⟨s2,ha,vq,jk⟩:=Ake qq (Xu _) (args:=[.sl ii g 0 L.length 1 true]) (v:=SL true 0 (Bb (R8 L))) (by grind[Ag]);simp only[go_sem,Bl h,e0,f1,f2];refine A0c (.cons (Vo (Mm qq AA (O3 _) (Xu _)) (Ce qq)) .nil) g5 ha ?_;have qk:∀ j,j<4->s2[j]?=s[j]?:=fun j hj=>jk j (by grind[V.refs])
  have hv:IntsL s2 (R8 L) (SL true 0 (Bb (R8 L))):=.set;have qR:=Ak7 hv;have qO:4<=s2.length:=by omega
  generalize SL true 0 (Bb (R8 L))=v at *;have q0:=(qk 0 AA).trans e0;have q2:=(qk 2 AA).trans e2;have q3:=(qk 3 AA).trans e3;simp only[go_sem,q0,qR];refine Aq (Ak8 gk qU AA hv qO q2 fun u s3 qM qP qc=>?_) rfl;have qn:=(qM 3 AA).trans q3;have qB:=Ce qc;have qC:=fun X:Ob=>Cm (a:=X) (Al.1 qn).1
  simp only[go_sem,qP,qn,qB,qC];exact Aj6 (pre:=[iV e.kind]) (post:=[iV e.seen,iV e.missed]) (D5 qc AA) AA (Gz _) (M3 _) rfl rfl rfl
 .have qF:Z=L:=by rw[<-hZ];unfold N8;rw[if_neg qL,if_neg qX]
  clear hZ;subst qF;have f2:(e.kind==2)=false:=by simpa using qX
  have qk:∀ j,j<4->s[j]?=s[j]?:=fun _ _=>rfl
  have hv:IntsL s Z (.sl ii g 0 Z.length 1 true):=.obj ho qj;have qR:=Ak7 hv;have qO:=qQ;generalize V.sl ii g 0 Z.length 1 true=v at *;simp only[go_sem,Bl h,e0,f1,f2];have q0:=(qk 0 AA).trans e0;have q2:=(qk 2 AA).trans e2;have q3:=(qk 3 AA).trans e3;simp only[go_sem,q0,qR];refine Aq (Ak8 gk qU AA hv qO q2 fun u s3 qM qP qc=>?_) rfl;have qn:=(qM 3 AA).trans q3;have qB:=Ce qc;have qC:=fun X:Ob=>Cm (a:=X) (Al.1 qn).1
  simp only[go_sem,qP,qn,qB,qC];exact Aj6 (pre:=[iV e.kind]) (post:=[iV e.seen,iV e.missed]) (D5 qc AA) AA (Gz _) (M3 _) rfl rfl rfl
def Ut(x y:Ent):Int:=if C7 x y<0 then -1 else if C7 y x<0 then 1 else 0
def Ax2{x y:Ent}:Ut x y<0↔C7 x y<0:=by
 grind[Ut]
def Bgm(x y:Ent)(hx:x.sites.length<=9223372036854775807)(hy:y.sites.length<=9223372036854775807):Fn TT PT 27 [.agg x.row,.agg y.row] (iV (Ut x y)):=by
 have g1:=Afk x y hx hy;have g2:=Afk y x hy hx;refine Bj T27 rfl ?_;unfold Ent.row at *;simp only[go_sem];refine Ab g1 AB ?_;simp only[go_sem];by_cases h1:C7 x y<0
 .have f1:decide (C7 x y<0)=true:=decide_eq_true h1;simp only[go_sem,f1];exact Ah rfl (by simp_all [Ut])
 have f1:decide (C7 x y<0)=false:=decide_eq_false h1;simp only[go_sem,f1];refine Ab g2 AB ?_;simp only[go_sem];by_cases h2:C7 y x<0
 .have f2:decide (C7 y x<0)=true:=decide_eq_true h2;simp only[go_sem,f2];exact Ah rfl (by simp_all [Ut])
 have f2:decide (C7 y x<0)=false:=decide_eq_false h2;simp only[go_sem,f2];exact Ah rfl (by unfold Ut;grind)
def Ky(L:List Ent):List V:=(L.map Ent.row).flatten
def A7f{s:St}{i g n b ii:Nat}{w:Bool}(hi:i<s.length)(hn:n<=1000){k0:List It}{Q:Env->St->Prop}{R A:List Ent}{x:Ent}(hs:∀ e∈A,e.sites.length<=1000)
  (qa:∀ (D:List Ent) (j:Nat),Ng I5 Ent.ks D->D.Perm A->W TT PT k0 [(0,.sl i g 0 n 4 w),(1,iV 0),(2,iV (b:Int)),(3,.fn 27 [] []),(8,iV (ii:Int)),(9,iV (j:Int))] (s.set i (.row (Ky (D++R)) 43 g 0)) Q)
  (P0:List Ent) (hA:(P0++[x]).Perm A) (vj:A.length+R.length=n) (h0:Ng I5 Ent.ks P0) :
  W TT PT (.l [0,1,2,3,8,9] lp94_0::.b 2::k0) [(0,.sl i g 0 n 4 w),(1,iV 0),(2,iV (b:Int)),(3,.fn 27 [] []),(8,iV (ii:Int)),(9,iV (P0.length:Int))] (s.set i (.row (Ky (P0++x::R)) 43 g 0)) Q:=by
 refine Bk (α:=List Ent × List Ent) (fun a=>a.1.length) (fun a=>[(0,.sl i g 0 n 4 w),(1,iV 0),(2,iV (b:Int)),(3,.fn 27 [] []),(8,iV (ii:Int)),(9,iV (a.1.length:Int))]) (fun a=>s.set i (.row (Ky (a.1++x::(a.2++R))) 43 g 0))
  (fun a=>InsI I5 Ent.ks a.1 x a.2/\(a.1++x::a.2).Perm A) ?_ (P0,[]) ⟨Bfi h0,hA⟩
 rintro⟨P,Z⟩ ⟨hI,hP⟩ ih;simp only at hI hP ih;refine Bd Bpr ?_;have qf:=hP.length_eq;rw[Ar,Ao]at qf;have qb:=fun X:Ob=>Cm (a:=X) hi
 have Ah7:=fun X Y:Ob=>Ai5 (l:=s) (i:=i) (a:=X) (b:=Y)
 rcases List.eq_nil_or_concat P with rfl | ⟨P,p,rfl⟩
 .simp only[go_sem];refine Af AD ?_;simp only[go_sem];have:=qa (x::Z) 0 (A6l lin_p hI) hP;exact this
 rw[List.concat_eq_append]at *;have hj:((P++[p]).length:Int)=((P.length+1:Nat):Int):=by simp
 have w1:IntKind.i64.wrap (((P.length+1:Nat):Int) - 1)=((P.length:Nat):Int):=by rw[Cs AA];omega
 have hD:P++[p]++x::(Z++R)=P++p::x::(Z++R):=by simp
 have jI:(P++p::x::(Z++R)).length=n:=by simp at qf ⊢;omega
 have hx:((P++p::x::(Z++R)).map Ent.row)[P.length+1]?=some x.row:=by simp
 have hp:((P++p::x::(Z++R)).map Ent.row)[P.length]?=some p.row:=by simp
 have je:=Af4 (e:=43) (g:=g) (z:=0) (Gk _) hx;have kg:=Af4 (e:=43) (g:=g) (z:=0) (Gk _) hp;have jV:P.length+1<n:=by simp at qf;omega
 have ju:P.length<n:=by omega
 have f1:((0:Int)<((P.length+1:Nat):Int))=True:=eq_true AA;have gc:=Bgm x p (by have:=hs x (hP.mem_iff.1 AE);omega) (by have:=hs p (hP.mem_iff.1 AE);omega);unfold Ky at *;rw[hj,hD];simp only[go_sem,f1];refine Af AD ?_;simp only[go_sem,f1,Md jV,Md ju,w1,qb,je,kg];simp only[Vq]at gc;refine Bg gc AB ?_;by_cases qr:C7 x p<0;rotate_left
 .have f2:(Ut x p<0)=False:=eq_false fun h=>qr (Ax2.1 h)
  simp only[go_sem,f2];have h2:=qa (P++p::x::Z) (P.length+1) (by have:=Bae lin_p hI qr;grind) (by grind);rw[Br]at h2;exact h2
 have f2:(Ut x p<0)=True:=eq_true (Ax2.2 qr);simp only[go_sem,f2];have hF:∀ L:List Ent,((L.map Ent.row).flatten).length=L.length*4:=fun L=>by rw[Ge (Gk L),Au]
 have q1:=Abe (r:=p.row) (i:=P.length+1) (Gk (P++p::x::(Z++R))) AE rfl;have q2:=Abe (r:=x.row) (i:=P.length) (Gk (P++p::p::(Z++R))) AE rfl;rw[show((P++p::x::(Z++R)).map Ent.row).set (P.length+1) p.row=(P++p::p::(Z++R)).map Ent.row by simp,Br]at q1;rw[show((P++p::p::(Z++R)).map Ent.row).set P.length x.row=(P++x::p::(Z++R)).map Ent.row by simp,Br]at q2;simp only[Vq,Bt,Be]at q1 q2;have l1:((P.length+1)*4+4<=((P++p::x::(Z++R)).map Ent.row).flatten.length)=True:=eq_true (by grind);have l2:(P.length*4+4<=((P++p::p::(Z++R)).map Ent.row).flatten.length)=True:=eq_true (by rw[hF];grind);refine Af AD ?_;simp only[go_sem,Md jV,Md ju,w1,qb,je,kg,l1,q1,Ah7];refine Re (by repeat (first | exact trivial | refine⟨.inl AK,?_⟩ | refine⟨by rfl,?_⟩ | refine⟨.inr ⟨by rfl,by rfl⟩,?_⟩)) (by repeat (first | exact trivial | refine⟨.inl AK,?_⟩ | refine⟨by rfl,?_⟩ | refine⟨.inr ⟨by rfl,by rfl⟩,?_⟩)) ?_;simp only[go_sem,Md ju,qb,l2,q2,Ah7];refine Re (by repeat (first | exact trivial | refine⟨.inl AK,?_⟩ | refine⟨by rfl,?_⟩ | refine⟨.inr ⟨by rfl,by rfl⟩,?_⟩)) (by repeat (first | exact trivial | refine⟨.inl AK,?_⟩ | refine⟨by rfl,?_⟩ | refine⟨.inr ⟨by rfl,by rfl⟩,?_⟩)) ?_;simp only[go_sem,w1];exact Aq (ih (P,p::Z) AE ⟨Bad hI qr,(A6m P Z p x).symm.trans (by grind)⟩) rfl
theorem A7g(L:List Ent):(Ky L).all V.rowB=true:=Ie (Ow L)
theorem Afb{s:St}{i g:Nat}(L:List Ent)(h:Cl s):Cl (s.set i (.row (Ky L) 43 g 0)):=F8 h (by grind[Ob.refs,Fr,A7g])
def Ax3{s:St}(hc:Cl s)(v:V)(a b:Nat)(h:b<=a+1)(ha:a<=1000):
  ∃ s',Th TT PT 94 [v,iV (a:Int),iV (b:Int),.fn 27 [] []] s (.tup []) s'/\s'=s:=by
 have w1:IntKind.i64.wrap ((a:Int)+1)=((a+1:Nat):Int):=A1 AA;have f1:(((a+1:Nat):Int)<(b:Int))=False:=eq_false AA;refine Yb T94 rfl ?_ rfl rfl (fun s' h=>by grind);simp only[go_sem,w1];refine Bd A0n ?_;simp only[go_sem,f1];trivial
def Blv{s:St}(hc:Cl s){i g:Nat}{w:Bool}(L:List Ent)(hn:L.length<=1000)(hi:s[i]?=some (.row (Ky L) 43 g 0))(hs:∀ e∈L,e.sites.length<=1000):
  ∃ s',Th TT PT 94 [.sl i g 0 L.length 4 w,iV 0,iV (L.length:Int),.fn 27 [] []] s (.tup []) s'/\∃ D:List Ent,D.Perm L/\Ng I5 Ent.ks D/\s'=s.set i (.row (Ky D) 43 g 0):=by
 have jo:=(Al.1 hi).1
 refine Yb T94 rfl ?_ rfl rfl (fun s' h=>by
  obtain⟨D,-,-,rfl⟩:=h
  grind[Afb])
 have w0:IntKind.i64.wrap ((0:Int)+1)=((1:Nat):Int):=rfl;simp only[go_sem,w0]
 refine Bk (α:=Nat × List Ent × St) (fun a=>L.length - a.1) (fun a=>[(0,.sl i g 0 L.length 4 w),(1,iV 0),(2,iV (L.length:Int)),(3,.fn 27 [] []),(8,iV (a.1:Int))]) (fun a=>a.2.2)
  (fun a=>a.2.1.Perm (L.take a.1)/\Ng I5 Ent.ks a.2.1/\a.2.2=s.set i (.row (Ky (a.2.1++L.drop a.1)) 43 g 0)) ?_ (1,L.take 1,s) ⟨.refl _,by
   match L with
   | []=>exact .nil
   | [x]=>exact Aii _ _
   | x::_::_=>exact Aii _ _,by grind[List.take_append_drop,M4]⟩
 rintro⟨j,D,s'⟩ ⟨hp,hl,qm⟩ ih;simp only at hp hl qm ih;subst qm;refine Bd A0n ?_;rcases Bh j L.length with h | h;rotate_left
 .rw[Jb h]at hp;simp only[go_sem,Bl h];rw[Ec h,B3];exact⟨rfl,D,hp,hl,rfl⟩
 obtain⟨x,hx,ve,ke⟩:=Bq h;have j1:IntKind.i64.wrap ((j:Int)+1)=((j+1:Nat):Int):=A1 AA;have jI:D.length=j:=by rw[hp.length_eq,Ip];omega
 have jc:L.take (j+1)=L.take j++[x]:=by rw[Ic,hx];rfl
 rw[ve];simp only[go_sem,Ay h];refine Aq (A7f (A:=D++[x]) (R:=L.drop (j+1)) (x:=x) jo hn (fun e he=>?_) (fun D' j' h1 h2=>?_) D (.refl _) (by grind) hl) (by rw[jI])
 .grind
 .simp only[go_sem,j1];exact Aq (ih (j+1,D',_) AA ⟨by rw[jc];exact h2.trans (hp.append_right _),h1,rfl⟩) rfl
def A4o{s:St}(hc:Cl s):
  ∃ s',Th TT PT 55 [.nils,iV 0,.fn 27 [] []] s (.tup []) s'/\s'=s:=by
 obtain⟨s1,h1,rfl⟩:=Ax3 hc .nils 0 0 AA AA;refine Yb T55 rfl ?_ rfl rfl (fun s' h=>by grind);simp only[go_sem];refine Bd Ans ?_;simp only[go_sem];refine Cb h1 ?_;simp only[go_sem];refine Bd Ant ?_;simp only[go_sem];trivial
def A7h{s:St}(hc:Cl s){i g:Nat}{w:Bool}(L:List Ent)(hn:L.length<=20)(hi:s[i]?=some (.row (Ky L) 43 g 0))(hs:∀ e∈L,e.sites.length<=1000):
  ∃ s',Th TT PT 55 [.sl i g 0 L.length 4 w,iV (L.length:Int),.fn 27 [] []] s (.tup []) s'/\∃ D:List Ent,D.Perm L/\Ng I5 Ent.ks D/\s'=s.set i (.row (Ky D) 43 g 0):=by
 obtain⟨s1,h1,D,hp,hl,rfl⟩:=Blv hc (w:=w) L AA hi hs;have kB:=Afb (i:=i) (g:=g) D hc
 refine Yb T55 rfl ?_ rfl rfl (fun s' h=>by
  obtain⟨D,-,-,rfl⟩:=h
  grind[Afb])
 simp only[go_sem];refine Bd Ans ?_;by_cases km:L.length=20
 .obtain⟨s2,h2,rfl⟩:=Ax3 kB (.sl i g 0 L.length 4 w) 20 L.length AA AA;have f1:((20:Int)<=(L.length:Int))=True:=eq_true AA;have f2:((40:Int)<=(L.length:Int))=False:=eq_false AA;have f3:((20:Int)<(L.length:Int))=False:=eq_false AA
  have h1:Th TT PT 94 [.sl i g 0 L.length 4 w,iV 0,iV 20,.fn 27 [] []] s (.tup []) (s.set i (.row (Ky D) 43 g 0)):=by
   rw[km]at h1 ⊢;exact h1
  simp only[go_sem,f1];refine Cb h1 ?_;simp only[go_sem];refine Bd Ans ?_;simp only[go_sem,f2];refine Cb h2 ?_;simp only[go_sem];refine Bd Ant ?_;simp only[go_sem,f3];exact⟨rfl,D,hp,hl,rfl⟩
 .have f1:((20:Int)<=(L.length:Int))=False:=eq_false AA;have f3:((20:Int)<(L.length:Int))=False:=eq_false AA;simp only[go_sem,f1];refine Cb h1 ?_;simp only[go_sem];refine Bd Ant ?_;simp only[go_sem,f3];exact⟨rfl,D,hp,hl,rfl⟩
def A7i{s:St}(hc:Cl s):
  ∃ s',Th TT PT 26 [.nils,.fn 27 [] []] s (.tup []) s'/\s'=s:=by
 obtain⟨s1,h1,rfl⟩:=A4o hc;refine Yb T26 rfl ?_ rfl rfl (fun s' h=>by grind);simp only[go_sem];refine Cb h1 ?_;simp only[go_sem];trivial
def Bbl{s:St}(hc:Cl s){i g:Nat}{w:Bool}(L:List Ent)(hn:L.length<=20)(hi:s[i]?=some (.row (Ky L) 43 g 0))(hs:∀ e∈L,e.sites.length<=1000):
  ∃ s',Th TT PT 26 [.sl i g 0 L.length 4 w,.fn 27 [] []] s (.tup []) s'/\∃ D:List Ent,D.Perm L/\Ng I5 Ent.ks D/\s'=s.set i (.row (Ky D) 43 g 0):=by
 obtain⟨s1,h1,h2⟩:=A7h hc (w:=w) L hn hi hs
 refine Yb T26 rfl ?_ rfl rfl (fun s' h=>by
  obtain⟨D,-,-,rfl⟩:=h
  grind[Afb])
 simp only[go_sem];refine Cb h1 ?_;simp only[go_sem];exact⟨rfl,h2⟩
def Avm{m:Nat}{xs:List (List V)}{i j:Nat}{r:List V}{c:V}(hl:∀ r∈xs,r.length=m)(hr:xs[i]?=some r)(hj:j<m):
  xs.flatten.take (i*m+j)++c::xs.flatten.drop (i*m+j+1)=(xs.set i (r.set j c)).flatten:=by
 obtain⟨hi,vx⟩:=Al.1 hr;have qA:=hl r (Gx hr);have h1:=Abe (r:=r) hl hi qA;have h2:=Abe (r:=r.set j c) hl hi (by grind);rw[show xs.set i r=xs by grind[List.set_getElem_self]]at h1;rw[<-h2];have ku:=Ge hl
 have hA:(xs.flatten.take (i*m)).length=i*m:=by
  rw[Ip,ku];have:i*m<=xs.length*m:=E1 m AA;omega
 generalize xs.flatten.drop (i*m+m)=B at *;generalize xs.flatten.take (i*m)=A at *;rw[<-h1,List.set_eq_take_append_cons_drop,if_pos AA]
 have e1:(A++r++B).take (i*m+j)=A++r.take j:=by
  rw[Br,List.take_append,hA,Jb AA,show i*m+j - i*m=j by omega,Aih AA]
 have e2:(A++r++B).drop (i*m+j+1)=r.drop (j+1)++B:=by
  rw[Br,Aiq,hA,Ec AA,show i*m+j+1 - i*m=j+1 by omega,List.drop_append_of_le_length AA,Be]
 grind
theorem A4p{O:List Ent}{x e:Ent}(h:¬ C7 x e<0):J9 (O++[x]) e=O++[Sq x e]:=by
 grind[J9]
theorem A4q{O:List Ent}{x e:Ent}(h:C7 x e<0):J9 (O++[x]) e=O++[x]++[e]:=by
 grind[J9]
set_option maxHeartbeats 2000000 in
def A7j(z:Bool)(t:Nat)(S:List Ent)(hn:S.length<=1000)(hs:∀ e∈S,e.sites.length<=1000):
  Fn TT PT 29 [SL z t (S.map Ent.row)] (SL true 0 ((S.foldl J9 []).map Ent.row)):=by
 have jO:(S.map Ent.row).length=S.length:=Au ..;refine Bj T29 rfl ?_;simp only[go_sem,jO]
 refine Bk (α:=Nat × V × St × List Ent) (fun a=>S.length - a.1) (fun a=>[(3,a.2.1),(7,SL z t (S.map Ent.row)),(8,iV (S.length:Int)),(9,iV (a.1:Int))]) (fun a=>a.2.2.1)
  (fun a=>a.1<=S.length/\a.2.2.2=(S.take a.1).foldl J9 []/\a.2.2.2.length<=a.1/\(∀ e∈a.2.2.2,e.sites.length<=1000)/\GW a.2.2.1 4 43 0 a.2.1 (a.2.2.2.map Ent.row)) ?_ (0,.nils,[],[]) ⟨Ax _,rfl,Ak _,(fun e he=>by cases he),Ds⟩
 rintro⟨i,u,s,O⟩ ⟨hi,hO,ji,jN,hg⟩ ih;simp only at hi hO ji jN hg ih;refine Bd Bot ?_;rcases Bh i S.length with h | h;rotate_left
 .simp only[go_sem,Bl h];rw[Jb h]at hO;rw[<-hO];exact Ru hg AA (Gk _) (Ow _)
 obtain⟨e,he,-,qI⟩:=Bq h;have i1:IntKind.i64.wrap ((i:Int)+1)=((i+1:Nat):Int):=A1 AA;have vn:=hs e qI;have qJ:(S.map Ent.row)[i]?=some (eR e e.sl):=by rw[As,he];rfl
 have kU:(S.take (i+1)).foldl J9 []=J9 O e:=by rw[Ic,he,Su,List.foldl_append,<-hO];rfl
 have qT:∀ X:Ob,(s++[X])[s.length]?=some X:=fun X=>Oy _ _
 have kH:=Gm (l:=[eO e e.sl]) hg;obtain⟨v2,s3,e3,g3,-,-,-⟩:=Hz (bytes:=48) (y:=.lst 1 [(eR e e.sl)]) (ys:=[(eR e e.sl)]) kH (Ax _) rfl AA (Gk _) AE (by grind);rcases List.eq_nil_or_concat O with rfl | ⟨O,x,rfl⟩
 .have jd:=Azf hg;simp only[go_sem,Ay h,qJ,jd];refine Af AD ?_;simp only[go_sem];simp only[go_sem,qT,e3,i1];exact Aq (ih (i+1,v2,s3,[e]) AA ⟨h,kU.symm,by simp,fun y hy=>by grind,g3⟩) rfl
 rw[List.concat_eq_append]at *;rcases hg with⟨-,hg⟩ | ⟨-,o,g,rfl,ho,-⟩
 .simp at hg
 have kL:((O++[x]).map Ent.row).length=O.length+1:=by simp
 rw[kL]at e3 ⊢;have hx:((O++[x]).map Ent.row)[O.length]?=some x.row:=by simp
 have je:=Af4 (e:=43) (g:=g) (z:=0) (Gk _) hx;have qy:=fun X:Ob=>Bs (l:=[X]) ho
 have f1:((0:Int)<((O.length+1:Nat):Int))=True:=eq_true AA;have ji:O.length+1<=i:=by simpa using ji
 have w1:IntKind.i64.wrap (((O.length+1:Nat):Int) - 1)=((O.length:Nat):Int):=by rw[Cs AA];omega
 have vg:=jN x AE;have gl:=Afk x e AA AA;simp only[Vq]at gl;simp only[go_sem,Ay h,qJ];refine Af AD ?_;simp only[go_sem,f1,w1,Md (Adl O.length),qy,je,qT];refine Bg gl AB ?_;by_cases qr:C7 x e<0
 .have f2:decide (C7 x e<0)=true:=decide_eq_true qr;simp only[go_sem,f2,qT,e3,i1];refine Aq (ih (i+1,v2,s3,O++[x]++[e]) AA ⟨h,by grind[A4q],by grind,fun y hy=>?_,?_⟩) rfl
  .grind
  grind
 have f2:decide (C7 x e<0)=false:=decide_eq_false qr;simp only[go_sem,f2];have hF:∀ L:List Ent,((L.map Ent.row).flatten).length=L.length*4:=fun L=>by rw[Ge (Gk L),Au]
 obtain⟨x2,qS⟩:∃ x2:Ent,x2={ x with seen:=max x.seen e.seen }:=⟨_,rfl⟩;have c2:=Ach (e:=43) (g:=g) (z:=0) (X0 (j:=2) (c:=iV x.seen) (Gk _) hx rfl);have q1:=Avm (j:=2) (c:=iV (max x.seen e.seen)) (Gk (O++[x])) hx AA;rw[show((O++[x]).map Ent.row).set O.length (x.row.set 2 (iV (max x.seen e.seen)))=(O++[x2]).map Ent.row by rw[qS];simp[Ent.row,Ent.sl]]at q1;have l1:(O.length*4+2+1<=((O++[x]).map Ent.row).flatten.length)=True:=eq_true (by grind);have vt:=(Al.1 ho).1;have jE:=fun X:Ob=>Cm (l:=s++[eO e e.sl]) (i:=o) (a:=X) (by grind)
 have kk:∀ X:Ob,((s++[eO e e.sl]).set o X)[s.length]?=some (eO e e.sl):=fun X=>by grind
 have kl:=fun X Y:Ob=>Ai5 (l:=s++[eO e e.sl]) (i:=o) (a:=X) (b:=Y)
 have kc:((O++[x2]).map Ent.row)[O.length]?=some [iV x.kind,x.sl,iV (max x.seen e.seen),iV x.missed]:=by rw[qS];simp[Ent.row,Ent.sl]
 have c3:=Ach (e:=43) (g:=g) (z:=0) (X0 (j:=3) (c:=iV x.missed) (Gk _) kc rfl);have q3:=Avm (j:=3) (c:=iV (min x.missed e.missed)) (Gk (O++[x2])) kc AA;rw[show((O++[x2]).map Ent.row).set O.length (([iV x.kind,x.sl,iV (max x.seen e.seen),iV x.missed]:List V).set 3 (iV (min x.missed e.missed)))=(O++[Sq x e]).map Ent.row by simp[Ent.row,Ent.sl,Sq]]at q3;have l3:(O.length*4+3+1<=((O++[x2]).map Ent.row).flatten.length)=True:=eq_true (by grind);refine Af AD ?_;simp only[go_sem,w1,Md (Adl O.length),qy,c2,qT,l1,q1];refine Re (by repeat (first | exact trivial | refine⟨.inl AK,?_⟩ | refine⟨by rfl,?_⟩ | refine⟨.inr ⟨by rfl,by rfl⟩,?_⟩)) (by repeat (first | exact trivial | refine⟨.inl AK,?_⟩ | refine⟨by rfl,?_⟩ | refine⟨.inr ⟨by rfl,by rfl⟩,?_⟩)) ?_;simp only[go_sem];refine Af AD ?_;simp only[go_sem,w1,Md (Adl O.length),jE,kk,c3,l3,q3,kl];refine Re (by repeat (first | exact trivial | refine⟨.inl AK,?_⟩ | refine⟨by rfl,?_⟩ | refine⟨.inr ⟨by rfl,by rfl⟩,?_⟩)) (by repeat (first | exact trivial | refine⟨.inl AK,?_⟩ | refine⟨by rfl,?_⟩ | refine⟨.inr ⟨by rfl,by rfl⟩,?_⟩)) ?_;simp only[go_sem,i1];refine Aq (ih (i+1,.sl o g 0 (O.length+1) 4 true,_,O++[Sq x e]) AA ⟨h,by grind[A4p],by grind,fun y hy=>?_,.inr ⟨by simp,o,g,by simp,jE _,Ax _⟩⟩) rfl;rcases Ct.1 hy with hy | hy
 .grind
 .rw[F5.1 hy];exact vg
def A4r{σ:St}{m e i g:Nat}{xs:List (List V)}{cs:List V}{c:Int}(ho:σ[i]?=some (.row xs.flatten e g 0))(hm:0<m)(hl:∀ r∈xs,r.length=m)(hr:∀ r∈xs,r.all V.rowB=true)(h1:cs.all V.rowB=true):
  FR (.tup [.agg cs,.sl i g 0 xs.length m true,iV c]) σ (.tup [.agg cs,.lst 0 xs,iV c]):=by
 obtain⟨hi,jv⟩:=Al.1 ho;have hx:Ag xs.flatten=[]:=Fr (Ie hr);have h0:ren 0 [i] i=0:=by simp[ren,Adi]
 refine .inr ⟨[i],?_,?_⟩
 .simp only[Hw,Cg,Hp,V.refs,Ag,Fr h1,B5,Dd,Vv h1,V.cellB,B3,Be]
  grind[En,Ob.refs]
 .simp only[Nj,ho,Q5,Az,Bz,Ob.ren,Pa i _ (Ie hr),V.ren,Ff,Pa i _ h1,h0,Eg,J4];have ha:OV [Ob.row xs.flatten e g 0] (.agg cs) (.agg cs):=Iv h1;have hb:OV [Ob.row xs.flatten e g 0] (.sl 0 g 0 xs.length m true) (.lst 0 xs):=Vo (Rt (i:=0) (g:=g) (e:=e) (z:=0) (w:=true) rfl hm hl hr) rfl;have hc:OV [Ob.row xs.flatten e g 0] (iV c) (iV c):=Iv rfl;exact congrArg (Option.map V.tup) (Vn (.cons ha (.cons hb (.cons hc .nil))) fun j hj=>Nr _ _ _ _ (Ss.2 hj))
def Bgn{σ:St}{m e lo:Nat}{u:V}{xs:List (List V)}{cs:List V}{c:Int}(h:GW σ m e lo u xs)(hm:0<m)(hl:∀ r∈xs,r.length=m)(hr:∀ r∈xs,r.all V.rowB=true)(h1:cs.all V.rowB=true):
  FR (.tup [.agg cs,u,iV c]) σ (.tup [.agg cs,SL true 0 xs,iV c]):=by
 rcases h with⟨rfl,rfl⟩ | ⟨hn,i,g,rfl,ho,qj⟩
 .exact Gr (by simp only[B5,Dd,Dc,h1];rfl)
 .rw[V6 hn];exact A4r ho hm hl hr h1
def Fy(K:List Aj)(M:List Int)(J:List Aj)(E:List Ent):List Ent:=(E.filter fun e=>(I8 K M J e).isNone).map Ent.own
def Qx(K:List Aj)(M:List Int)(J:List Aj)(E:List Ent):List Ent:=E.filterMap (I8 K M J)
def A16(n:Int)(X L:List Ent):V:=.tup [.agg [iV n,SL true 0 (X.map Ent.row)],SL true 0 (L.map Ent.row),iV 0]
def Bbm{K:List Aj}{M:List Int}{J:List Aj}{E:List Ent}{i:Nat}{e:Ent}(h:E[i]?=some e):Qx K M J (E.take (i+1))=Qx K M J (E.take i)++(I8 K M J e).toList:=by
 grind[Qx,List.take_add_one]
def Avn{K:List Aj}{M:List Int}{J:List Aj}{E:List Ent}{i:Nat}{e:Ent}(h:E[i]?=some e):Fy K M J (E.take (i+1))=Fy K M J (E.take i)++if(I8 K M J e).isNone then [e.own] else []:=by
 grind[Fy,List.take_add_one]
def Avo{K:List Aj}{M:List Int}{J:List Aj}{e y:Ent}(h:I8 K M J e=some y):y.own=y/\y.sites.length=e.sites.length:=by
 unfold I8 at h
 cases hr:Gs K M e.sites with
 | none=>grind
 | some r=>
  rw[hr]at h;have h:=Lb h;subst h;refine⟨rfl,?_⟩
  grind[Avl,Ad6]
def Bgo(K:List Aj)(M:List Int)(J:List Aj)(E:List Ent):Lz (Qx K M J E):=fun y hy=>by
 obtain⟨e,-,he⟩:=Adh.1 hy;exact(Avo he).1
def Bgp(K:List Aj)(M:List Int)(J:List Aj)(E:List Ent):(Qx K M J E).length<=E.length:=List.length_filterMap_le _ _
def Ax4(K:List Aj)(M:List Int)(J:List Aj)(E:List Ent):(Fy K M J E).length<=E.length:=by
 grind[Fy]
def A03(N:Nat):Prop:=∀ {s:St},Cl s->∀ {i g:Nat} {w:Bool} (L:List Ent),L.length<=N->s[i]?=some (.row (Ky L) 43 g 0)->(∀ e∈L,e.sites.length<=1000) ->
  ∃ s',Th TT PT 26 [.sl i g 0 L.length 4 w,.fn 27 [] []] s (.tup []) s'/\∃ D:List Ent,D.Perm L/\Ng I5 Ent.ks D/\s'=s.set i (.row (Ky D) 43 g 0)
set_option maxHeartbeats 4000000 in
def A7k{p q:Gp}(hp:PY p)(hq:PY q)(hM:∀ x∈Gf p q,x<((Ch q).length:Int))(z:Bool)(t:Nat)(n:Int)(E:List Ent)(hE:E.length<=900)(vc:A03 E.length)(hs:∀ e∈E,e.sites.length<=1000/\e.sites≠[])(ho:Wp E)(hv:Pc n E=true)(hK:(Ch p).length<=1000000000000):
  Fn TT PT 8 [.agg [iV n,SL z t (E.map Ent.row)],.agg p.row,.agg q.row] (A16 n ((Qx (Ch p) (Gf p q) (Ch q) E).foldl K3 []) (Fy (Ch p) (Gf p q) (Ch q) E)):=by
 have g0:=Bac z t n E ho;rw[hv]at g0;have g1:=Akc hp hq;have jg:(Gf p q).length=(Ch p).length:=by rw[Aab];exact Ajk p q
 have g2:=fun(e:Ent) (he:e∈E)=>Bbk hp.px hq.px (Gf p q) jg hM e (hs e he).1 (hs e he).2 hK
 have qs:=Fv p;have jw:=Fv q;rw[qs]at g1 g2 ⊢;rw[jw]at g1 g2 ⊢;generalize Ch p=K at *;generalize Ch q=J at *;generalize Gf p q=M at *;have jJ:(E.map Ent.row).length=E.length:=Au ..;refine Bj T8 rfl ?_;simp only[go_sem];refine Ab g0 AB ?_;simp only[go_sem];refine Ab g1 AB ?_;simp only[go_sem,jJ];obtain⟨σ0,jC⟩:∃ σ0:St,σ0=[.row [iV n,SL z t (E.map Ent.row)] 35 0 0,gO p,gO q,.row [iV 0,.nils] 35 0 0]:=⟨_,rfl⟩
 refine Bk (α:=Nat × V × V × St) (fun a=>E.length - a.1) (fun a=>[(4,.ptr 1 0 0),(5,.ptr 2 0 0),(6,.ptr 3 0 0),(9,SL true 0 (Bb M)),(10,.ptr 4 0 0),(11,a.2.2.1),(27,SL z t (E.map Ent.row)),(28,iV (E.length:Int)),(29,iV (a.1:Int))]) (fun a=>a.2.2.2)
  (fun a=>a.1<=E.length/\(∀ j,j<4->a.2.2.2[j]?=σ0[j]?)/\a.2.2.2[4]?=some (.row [iV n,a.2.1] 35 0 0)/\Cl a.2.2.2/\GW a.2.2.2 4 43 5 a.2.1 ((Qx K M J (E.take a.1)).map Ent.row)/\GW a.2.2.2 4 43 5 a.2.2.1 ((Fy K M J (E.take a.1)).map Ent.row)/\∀ j∈a.2.1.refs,j ∉ a.2.2.1.refs) ?_ (0,.nils,.nils,_) ⟨Ax _,fun j hj=>by grind,rfl,(by intro ob qz j hj;simp only[Bp,La,or_false]at qz;rcases qz with rfl | rfl | rfl | rfl | rfl<;>simp[Ob.refs,Ag,V.refs,Q8 (Hq _ _ _)]at hj),Ds,Ds,fun j hj=>by grind[V.refs]⟩
 rintro⟨i,uE,uL,s⟩ ⟨hi,hf,h4,qu,qe,qi,qv⟩ ih;simp only at hi hf h4 qu qe qi qv ih;refine Bd Brq ?_;have e1:=hf 1 AA;have e2:=hf 2 AA;have e3:=hf 3 AA;rw[jC]at e1 e2 e3;simp only[Ww,Q3]at e1 e2 e3;have qQ:=(Al.1 h4).1;have jU:=Ax4 K M J (E.take i);have qZ:=Bgp K M J (E.take i);rw[Ip]at jU qZ;rcases Bh i E.length with h | h
 .obtain⟨e,he,-,qI⟩:=Bq h;have i1:IntKind.i64.wrap ((i:Int)+1)=((i+1:Nat):Int):=A1 AA;have qJ:(E.map Ent.row)[i]?=some (eR e e.sl):=by rw[As,he];rfl
  have gc:=g2 e qI;have qN:=Bbm (K:=K) (M:=M) (J:=J) he;have qY:=Avn (K:=K) (M:=M) (J:=J) he;simp only[Vq]at gc;have gA:∀ (j:Nat) (o:Ob) (X:St),s[j]?=some o->(s++X)[j]?=some o:=fun j o X h=>Bs h
  cases qG:I8 K M J e with
  | none=>
   rw[qG]at gc qN qY;unfold Ao2 at gc;simp only at gc;simp only[go_sem,Ay h,qJ,gA _ _ _ e1,gA _ _ _ e2];refine Ab gc AB ?_;simp only[go_sem];have kj:Fn TT PT 25 [e.sl] (SL true 0 (e.sites.map Aw)):=Bag e.z e.t e.sites (hs e qI).2 (by grind);refine Ab kj AB ?_;obtain⟨u2,s2,a1,g5,l5,k5,r5,c5⟩:=O7 (bytes:=48) (y:=.lst 1 [(eR e (SL true 0 (e.sites.map Aw)))]) (ys:=[(eR e (SL true 0 (e.sites.map Aw)))]) (Gm (l:=[eO e (SL true 0 (e.sites.map Aw)),Ob.row [iV 0,.nils,iV 0,iV 0] 43 0 0]) qi) (by grind) rfl AA (Gk _) AE (Ow [e.own]) (by grind);simp only[go_sem,a1,i1];have hk:∀ j,j<s.length->j ∉ uL.refs->s2[j]?=s[j]?:=fun j h1 h2=>by grind
   have qV:∀ j,j<5->j ∉ uL.refs:=fun j hj hm=>by have:=(Dm qi j hm).1;omega
   refine Aq (ih (i+1,uE,u2,s2) AA ⟨h,fun j hj=>(hk j AA (qV j AA)).trans (hf j hj),(hk 4 AA (qV 4 AA)).trans h4,c5 ?_,?_,?_,fun j hj hm=>?_⟩) rfl
   .have:=Afw (t:=43) (cs:=[iV 0,.nils,iV 0,iV 0]) (Afw (t:=43) qu (Ow [e.own] _ B7)) rfl;rw[Br]at this;exact this
   .simp only;rw[qN];simp only[Option.toList_none,B3];exact Jm qe fun j hj=>hk j (Gn qe j hj) (qv j hj)
   .simp only;rw[qY];simp only[Option.isNone_none,if_pos,F0];exact g5
   .rcases r5 j hm with h1 | h1
    .grind
    .have:=Gn qe j hj
     grind
  | some y=>
   rw[qG]at gc qN qY;unfold Ao2 at gc;simp only[Vq]at gc;obtain⟨u2,s2,a1,g5,l5,k5,r5,c5⟩:=O7 (bytes:=48) (y:=.lst 1 [(eR y y.sl)]) (ys:=[(eR y y.sl)]) (Gm (l:=[eO e e.sl,eO y y.sl]) qe) (by grind) rfl AA (Gk _) AE (Ow [y]) (by grind);have hk:∀ j,j<s.length->j ∉ uE.refs->s2[j]?=s[j]?:=fun j h1 h2=>by grind
   have qV:∀ j,j<5->j ∉ uE.refs:=fun j hj hm=>by have:=(Dm qe j hm).1;omega
   have jF:=(hk 4 AA (qV 4 AA)).trans h4;have cu:=Nv (Ce g5);have cv:=Ce g5;simp only[go_sem,Ay h,qJ,gA _ _ _ e1,gA _ _ _ e2];refine Ab gc AB ?_;simp only[go_sem,gA _ _ _ h4,a1,jF,cu,cv,i1];refine Aq (ih (i+1,u2,uL,_) AA ⟨h,fun j hj=>?_,Cm (Al.1 jF).1,F8 (c5 ?_) ?_,?_,?_,fun j hj hm=>?_⟩) rfl
   .simp only;rw[Cc AA]
    grind
   .have:=Afw (t:=43) (Afw (t:=43) qu (Ow [e] _ B7)) (Ow [y] _ B7);rw[Br]at this;exact this
   .intro j hj;exact Gn g5 j (by simpa[Ob.refs,Ag,V.refs] using hj)
   .simp only;rw[qN];simp only[Su,F0];exact D5 g5 AA
   .simp only;rw[qY];simp only[Option.isNone_some,Hh,if_false,B3];exact D5 (Jm qi fun j hj=>hk j (Gn qi j hj) fun h1=>qv j h1 hj) AA
   .rcases r5 j hj with h1 | h1
    .grind
    .have:=Gn qi j hm
     grind
 have qK:i=E.length:=by omega
 subst qK;rw[Db]at qe qi jU qZ;have ky:=Bgo K M J E
 have jP:∀ y∈Qx K M J E,y.sites.length<=1000:=fun y hy=>by
  obtain⟨e,qI,he⟩:=Adh.1 hy;rw[(Avo he).2]
  grind
 generalize Qx K M J E=X at *;generalize Fy K M J E=Y at *
 obtain⟨s1,s2,c1,c2,hk⟩:∃ s1 s2,CallS TT PT 26 [uE,.fn 27 [] []] s (.tup []) s1/\CallS TT PT 29 [uE] s1 (SL true 0 ((X.foldl K3 []).map Ent.row)) s2/\∀ j,j ∉ uE.refs->s1[j]?=s[j]?/\s2[j]?=s[j]?:=by
  have kh:∀ (s1:St) (D:List Ent),D.Perm X->Ng I5 Ent.ks D->GW s1 4 43 5 uE (D.map Ent.row)->∃ s2,CallS TT PT 29 [uE] s1 (SL true 0 ((X.foldl K3 []).map Ent.row)) s2/\∀ j,j ∉ uE.refs->s2[j]?=s1[j]?:=fun s1 D hp hl hg=>by
   have gm:=A7j true 0 D (by rw[hp.length_eq];omega) fun e he=>jP e (hp.mem_iff.1 he)
   rw[Bba ky hp hl]at gm;obtain⟨s2,ha,-,jk⟩:=Ake hg (Ow _) (args:=[uE]) (v:=SL true 0 ((X.foldl K3 []).map Ent.row)) (by simp[Ag]);refine⟨s2,?_,jk⟩;rw[<-ha];exact .pure (Afi (.cons (Vo (Mm hg AA (Gk _) (Ow _)) (Ce hg)) .nil)) gm
  rcases qe with⟨rfl,qE⟩ | ⟨qE,o,g,rfl,jv,qj⟩
  .have qE:X=[]:=by simpa using qE
   subst qE;obtain⟨s1,h1,rfl⟩:=A7i qu;obtain⟨s2,h2,h3⟩:=kh s1 [] (.refl _) .nil Ds;exact⟨s1,s2,.thr h1,h2,fun j hj=>⟨rfl,h3 j hj⟩⟩
  .rw[Au]at *;obtain⟨s1,h1,D,hp,hl,rfl⟩:=vc qu (w:=true) X AA jv jP
   obtain⟨s2,h2,h3⟩:=kh _ D hp hl (.inr ⟨fun e=>qE (by
    simp_all),o,g,by rw[Au,hp.length_eq],Cm (Al.1 jv).1,qj⟩)
   refine⟨_,s2,.thr h1,h2,fun j hj=>?_⟩
   grind[V.refs]
 have jf:∀ j,j<5->j ∉ uE.refs:=fun j hj hm=>by have:=(Dm qe j hm).1;omega
 have q4:=(hk 4 (jf 4 AA)).1.trans h4;have r4:=(hk 4 (jf 4 AA)).2.trans h4;have r3:=(hk 3 (jf 3 AA)).2.trans e3;simp only[go_sem,Bl h,h4];refine Ig c1 ?_;simp only[go_sem,q4];refine Ig c2 ?_;have w4:=fun X:Ob=>Cm (a:=X) (Al.1 r4).1
 have w3:∀ X:Ob,(s2.set 4 X)[3]?=some (.row [iV 0,.nils] 35 0 0):=fun X=>(Cc AA).trans r3
 have vi:=fun X Z:Ob=>Cm (l:=s2.set 4 X) (i:=3) (a:=Z) (by grind)
 simp only[go_sem,r4,w4,w3,vi];refine Bgn (D5 (D5 (Jm qi fun j hj=>(hk j fun h1=>qv j h1 hj).2) AA) AA) AA (Gk _) (Ow _) ?_;simp only[B5,Dd,Hq];rfl
def Bbn{K:List Aj}{M:List Int}{N:List Aj}(hm:M.length=K.length){k:Aj}(hk:k∈N):H0 K M k=none↔sI K k<0\/k∈R7 K M N:=by
 rw[A3a hm];constructor
 .rintro(h | ⟨s,h,h0⟩)
  .refine .inl ?_;unfold sI;rw[h];decide
  .refine .inr (Cy.2 ⟨s,?_,?_⟩)
   .have h1:=(Ot.1 h).1;have h2:=(Al.1 h1).1;rw[<-Akd];unfold Yj;refine Ol.2 ⟨Ed.2 h2,?_⟩;unfold Acg;rw[h1];simp only[h,hk,decide_true,Adp];exact decide_eq_true h0
   .rw[D3,(Ot.1 h).1,Sv]
 .rintro(h | h)
  .unfold sI at h
   cases hs:F9 K k with
   | none=>exact .inl rfl
   | some s=>rw[hs]at h;simp only at h;omega
  .obtain⟨s,hs,e⟩:=Cy.1 h;rw[<-Akd]at hs;unfold Yj at hs;obtain⟨h1,h2⟩:=Ol.1 hs;have h3:=Ed.1 h1;unfold Acg at h2;rw[Ca h3]at h2;rw[D3,Ca h3,Sv]at e;rw[e]at h2;simp at h2;exact .inr ⟨s,by grind,by grind⟩
def R9(K:List Aj)(D:List Aj)(l:List Aj):Bool:=l.any fun k=>decide (sI K k<0)||decide (k∈D)
def Bgq{K:List Aj}{M:List Int}{J:List Aj}{E:List Ent}(hm:M.length=K.length){e:Ent}(he:e∈E):R9 K (R7 K M (Dq E)) e.sites=(I8 K M J e).isNone:=by
 have h:R9 K (R7 K M (Dq E)) e.sites=true↔(I8 K M J e).isNone=true:=by
  unfold I8 R9;rw[Option.isNone_map,Option.isNone_iff_eq_none,Adz,Ok];refine exists_congr fun k=>and_congr_right fun hk=>?_
  rw[Bbn (N:=Dq E) hm (List.mem_flatMap.2 ⟨e,he,hk⟩)];simp
 exact Zm.2 h
def A7l{K:List Aj}{S:List Aj}{sB:St}{ib gb q:Nat}{kd sn ms:Int}{A B:V}{I:Nat}{k0:List It}{Q:Env->St->Prop}(jK:K.length<=1000000000000)(hS:∀ k∈S,Yk k)(jO:S.length<=1000)(qh:0<=sn/\sn<=1000)
  (kI:ib<sB.length) (hq:sB[q]?=some (.row [iV kd,.sl ib gb 0 S.length 3 true,iV sn,iV ms] 43 0 0)) (kX:q≠ib)
  (qa:W TT PT k0 [(6,.ptr 1 0 0),(7,SL true 0 (K.map Aw)),(8,.ptr 2 0 0),(10,.ptr q 0 0),(19,A),(20,B),(21,iV (I:Int)),(27,iV (S.length:Int)),(28,iV (S.length:Int))] (sB.set ib (.row ((Fp K sn S S.length).map Aw).flatten 45 gb 0)) Q) :
  ∀ j,j<=S.length->W TT PT (.l [6,7,8,10,19,20,21,27,28] lp6_0::.b 2::k0) [(6,.ptr 1 0 0),(7,SL true 0 (K.map Aw)),(8,.ptr 2 0 0),(10,.ptr q 0 0),(19,A),(20,B),(21,iV (I:Int)),(27,iV (S.length:Int)),(28,iV (j:Int))] (sB.set ib (.row ((Fp K sn S j).map Aw).flatten 45 gb 0)) Q:=by
 refine Bk (α:=Nat) (fun j=>S.length - j) _ _ _ ?_;intro j hj jh;have qD:(K.map Aw).length=K.length:=Au ..;refine Bd Brl ?_;rcases Bh j S.length with h2 | h2;rotate_left
 .have jq:j=S.length:=by omega
  subst jq;simp only[go_sem,Bl h2];exact qa
 obtain⟨k,hk,-,jt⟩:=Bq h2;have kK:=hS k jt;unfold Yk at kK;have j1:IntKind.i64.wrap ((j:Int)+1)=((j+1:Nat):Int):=A1 AA;have qZ:=Bbi K sn S j;have kQ:=Avj (K:=K) (seen:=sn) hk;have qx:((Fp K sn S j).map Aw)[j]?=some (kR k):=by rw[As,kQ];rfl
 have c0:=X0 (j:=0) (c:=.str k.1) (Gz _) qx rfl;have c1:=X0 (j:=1) (c:=.str k.2.1) (Gz _) qx rfl;have c2:=X0 (j:=2) (c:=iV k.2.2) (Gz _) qx rfl;rw[On]at c0;have l0:=Ach (e:=45) (g:=gb) (z:=0) c0;have l1:=Ach (e:=45) (g:=gb) (z:=0) c1;have l2:=Ach (e:=45) (g:=gb) (z:=0) c2;have gi:(sB.set ib (.row ((Fp K sn S j).map Aw).flatten 45 gb 0))[ib]?=some (.row ((Fp K sn S j).map Aw).flatten 45 gb 0):=Cm kI;have gq:(sB.set ib (.row ((Fp K sn S j).map Aw).flatten 45 gb 0))[q]?=some (.row [iV kd,.sl ib gb 0 S.length 3 true,iV sn,iV ms] 43 0 0):=by rw[Cc (Ne.symm kX)];exact hq
 have w1:IntKind.i64.wrap (3*(k.2.1.length:Int))=3*(k.2.1.length:Int):=Cs AA;have w2:IntKind.i64.wrap (k.2.2+3*(k.2.1.length:Int))=k.2.2+3*(k.2.1.length:Int):=Cs AA;have w3:IntKind.i64.wrap (5*(k.1.length:Int))=5*(k.1.length:Int):=Cs AA;have w4:IntKind.i64.wrap (k.2.2+3*(k.2.1.length:Int)+5*(k.1.length:Int))=N7 k:=by rw[Cs AA];rfl
 have vr:0<=N7 k/\N7 k<=20000:=by unfold N7;omega
 generalize qm:sB.set ib (.row ((Fp K sn S j).map Aw).flatten 45 gb 0)=st at *;simp only[go_sem,Ay h2];refine Af AD ?_;simp only[go_sem,gq,gi,Md h2,l0,l1,l2,w1,w2,w3,w4];by_cases kv:K.length=0
 .have f1:((0:Int)<(K.length:Int))=False:=eq_false AA;have hp:Qs K sn j k=k:=by unfold Qs;rw[if_pos (.inl kv)]
  have qd:=jh (j+1) AA h2;rw[Asj hk hp,qm]at qd;simp only[go_sem,qD,f1,j1];exact Aq qd rfl
 have f1:((0:Int)<(K.length:Int))=True:=eq_true AA;by_cases h7:(N7 k).tmod 7=0
 .have f2:((0:Int) != 0)=false:=rfl;have hp:Qs K sn j k=k:=by unfold Qs;rw[if_pos (.inr h7)]
  have qd:=jh (j+1) AA h2;rw[Asj hk hp,qm]at qd;simp only[go_sem,qD,f1,h7,f2,j1];exact Aq qd rfl
 have f2:((N7 k).tmod 7 != 0)=true:=by simpa using h7
 obtain⟨a,ha⟩:∃ a:Nat,N7 k=(a:Int):=⟨(N7 k).toNat,by omega⟩;obtain⟨b,hb⟩:∃ b:Nat,sn=(b:Int):=⟨sn.toNat,by omega⟩
 have vm:b*j<=1000000:=by
  have h1:b<=1000:=by omega
  have h3:j<=1000:=by omega
  calc b*j<=1000*1000:=Nat.mul_le_mul h1 h3
   _=1000000:=rfl
 have w5:IntKind.i64.wrap (sn*(j:Int))=((b*j:Nat):Int):=by
  rw[hb,show(b:Int)*(j:Int)=((b*j:Nat):Int) by simp,Cs AA]
 have w6:IntKind.i64.wrap (N7 k+((b*j:Nat):Int))=((a+b*j:Nat):Int):=by rw[ha,Cs AA];simp
 have r1:(((a+b*j:Nat):Int)).tmod (K.length:Int)=(((a+b*j) % K.length:Nat):Int):=Acc _ _;have hc:(a+b*j) % K.length<K.length:=Ov _ AA;obtain⟨y,hy,-,-⟩:=Bq hc;have vh:(K.map Aw)[(a+b*j) % K.length]?=some (kR y):=by rw[As,hy];rfl
 have hp:Qs K sn j k=y:=by
  unfold Qs
  rw[if_neg (by
   omega),ha,hb,show((a:Int)+(b:Int)*(j:Int))=((a+b*j:Nat):Int) by simp,r1,Nk,D3,hy]
  rfl
 have qd:=jh (j+1) AA h2;rw[Avk hk,hp,List.map_set]at qd;have qs:=Abe (r:=[V.str y.1,V.str y.2.1,iV y.2.2]) (Gz (Fp K sn S j)) (i:=j) (by grind) rfl;have kG:=Ge (Gz (Fp K sn S j));rw[Au,qZ]at kG;have kN:(j*3+3<=((Fp K sn S j).map Aw).flatten.length)=True:=eq_true AA;rw[show(Aw y)=[V.str y.1,V.str y.2.1,iV y.2.2] from rfl,<-qs]at qd;have jA:sB.set ib (.row (((Fp K sn S j).map Aw).flatten.take (j*3)++[V.str y.1,V.str y.2.1,iV y.2.2]++((Fp K sn S j).map Aw).flatten.drop (j*3+3)) 45 gb 0)=st.set ib (.row (((Fp K sn S j).map Aw).flatten.take (j*3)++[V.str y.1,V.str y.2.1,iV y.2.2]++((Fp K sn S j).map Aw).flatten.drop (j*3+3)) 45 gb 0):=by rw[<-qm,Ai5]
 rw[jA]at qd;simp only[Br,Bt,Be]at qd;have kJ:(K.length:Int)≠0:=by omega
 simp only[go_sem,qD,f1,f2];refine Af AD ?_;simp only[go_sem,gq,gi,Md h2,w5,w6,qD,r1,vh,kJ,kN];refine Re (by repeat (first | exact trivial | refine⟨.inl AK,?_⟩ | refine⟨by rfl,?_⟩ | refine⟨.inr ⟨by rfl,by rfl⟩,?_⟩)) (by repeat (first | exact trivial | refine⟨.inl AK,?_⟩ | refine⟨by rfl,?_⟩ | refine⟨.inr ⟨by rfl,by rfl⟩,?_⟩)) ?_;simp only[go_sem,j1];exact Aq qd rfl
def K4(K:List Aj)(l:List Item):List Ent:=Ly K (F3 l 20) (F3 l 20).length
def Bgr(x:Item):0<=x.ent.seen/\x.ent.seen<=1000:=by
 grind[Item.ent]
def A7m{p:Gp}(hp:PX p)(z:Bool)(t:Nat)(l:List Item)(n:Nat)(hn:n<256)(hl:l.length<=9223372036854775807)(kV:∀ x∈l,x.ok)(jK:(Ch p).length<=1000000000000):
  Fn TT PT 6 [.agg p.row,SL z t (l.map Item.row),.int .u8 n] (.agg [iV (n:Int),SL true 0 ((K4 (Ch p) l).map Ent.row)]):=by
 have g2:=Ba5 hp;rw[Af3]at g2;have qs:=Fv p;rw[qs]at g2 ⊢;obtain⟨b1,b2,b3⟩:=Aap l 20;obtain⟨u0,σ0,kE,L0,hg,hL,qu,qv⟩:=A2x z t l hl kV;have w1:IntKind.i64.wrap (n:Int)=n:=Cs AA;unfold K4
 have jB:∀ e∈F3 l 20,(∀ k∈e.sites,Yk k)/\e.sites.length<=1000/\(0<=e.seen/\e.seen<=1000):=fun e he=>by
  obtain⟨y,-,rfl⟩:=b3 e he;refine⟨A4n y,?_,Bgr y⟩
  grind[Xe,X9]
 clear b3;generalize hE:F3 l 20=E at *;generalize Ch p=K at *;have qD:(K.map Aw).length=K.length:=Au ..;obtain⟨σ1,kf⟩:∃ σ1:St,σ1=[gO p,.row [iV 0,.nils] 35 0 0,.row [iV (n:Int),.nils] 35 0 0]:=⟨_,rfl⟩;have qW:=CallS.own (σ:=σ1) (Xi (vs:=[SL z t (l.map Item.row)]) AB) kE;rw[Bfk (Vc AB)]at qW;have qw:=Bbg σ1 hg;have kC:=Bbh σ1.length hg qv;have jL:(L0.map fun p=>(p.1.ren (·+σ1.length),p.2)).map (·.2)=E:=by rw[Adt];exact hL
 have va:σ1.length=3:=by rw[kf];rfl
 have hJ:∀ j,j<3->(σ1++σ0.map (Ob.ren (·+σ1.length)))[j]?=σ1[j]?:=fun j hj=>Eb AA
 have e1:=(hJ 1 AA).trans (show σ1[1]?=some (.row [iV 0,.nils] 35 0 0) by grind);have e2:=(hJ 2 AA).trans (show σ1[2]?=some (.row [iV (n:Int),.nils] 35 0 0) by grind);generalize u0.ren (·+σ1.length)=u at qW qw;generalize qm:σ1++σ0.map (Ob.ren (·+σ1.length))=st at *;generalize(L0.map fun p=>(p.1.ren (·+σ1.length),p.2))=L at *;rw[va]at qw;have qB:=Ce qw.1;have jd:=Azf qw.1;rw[Au]at jd;have kw:L.length=E.length:=by rw[<-jL,Au]
 rw[kf]at qW;refine Bj T6 rfl ?_;simp only[go_sem];refine Ab g2 AB ?_;simp only[go_sem,w1];refine Ig qW ?_;simp only[go_sem,jd]
 refine Bk (α:=Nat × St) (fun a=>L.length - a.1) (fun a=>[(6,.ptr 1 0 0),(7,SL true 0 (K.map Aw)),(8,.ptr 2 0 0),(19,u),(20,iV (L.length:Int)),(21,iV (a.1:Int))]) (fun a=>a.2)
  (fun a=>a.1<=L.length/\a.2[1]?=some (.row [iV 0,.nils] 35 0 0)/\a.2[2]?=some (.row [iV (n:Int),SL true 0 ((Ly K E a.1).map Ent.row)] 35 0 0)/\GW a.2 4 43 3 u (L.map Fx)/\∀ q∈L.drop a.1,q.2.sites≠[]/\GW a.2 3 45 3 q.1 (q.2.sites.map Aw)) ?_ (0,st) ⟨Ax _,e1,e2,qw.1,fun q hq=>qw.2 q (by grind)⟩
 clear e1 e2 qm hJ;rintro⟨i,s⟩ ⟨hi,h1,h2,jS,jl⟩ ih;simp only at hi h1 h2 jS jl ih;obtain⟨v1,v2,v3⟩:=Afa K E i;refine Bd Brm ?_;rcases Bh i L.length with h' | h';rotate_left
 .have qK:i=L.length:=by omega
  subst qK;have g1:=fun X:Ob=>Cm (a:=X) (Al.1 h1).1
  simp only[go_sem,Bl h',h2,h1,g1];rw[kw];exact F7 AB
 obtain⟨q,hq,jZ,vv⟩:=Bq h';have kr:E[i]?=some q.2:=by rw[<-jL,As,hq];rfl
 obtain⟨vb,qQ,qh⟩:=jB q.2 (Gx kr);obtain⟨kY,kW⟩:=jl q (by grind);have i1:IntKind.i64.wrap ((i:Int)+1)=((i+1:Nat):Int):=A1 AA;rcases jS with⟨-,qU⟩ | ⟨kS,iu,g,kb,ho,qj⟩
 .rw[show L=[] by simp_all]at h';simp at h'
 rw[Au]at kb;rcases kW with⟨-,vu⟩ | ⟨-,ib,gb,jY,qz,jm⟩
 .exact absurd (by simp_all) kY
 rw[Au]at jY;have jn:=(Al.1 qz).1
 have vo:iu≠ib:=by
  rintro rfl;have h:=ho.symm.trans qz;simp only[Adj,Ob.row.injEq]at h;exact absurd h.2.1 AG
 have kT:(L.map Fx)[i]?=some [iV q.2.kind,.sl ib gb 0 q.2.sites.length 3 true,iV q.2.seen,iV q.2.missed]:=by
  rw[As,hq,<-jY];rfl
 have kM:=Af4 (e:=43) (g:=g) (z:=0) (Ra L) kT;obtain⟨sB,jy⟩:∃ sB:St,sB=s++[.row [iV q.2.kind,.sl ib gb 0 q.2.sites.length 3 true,iV q.2.seen,iV q.2.missed] 43 0 0]:=⟨_,rfl⟩;have vk:sB.length=s.length+1:=by rw[jy];simp
 have ko:∀ j,j<s.length->sB[j]?=s[j]?:=fun j hj=>by grind
 have jH:sB[s.length]?=some (.row [iV q.2.kind,.sl ib gb 0 q.2.sites.length 3 true,iV q.2.seen,iV q.2.missed] 43 0 0):=by rw[jy];exact Oy _ _
 have kn:=(Al.1 h2).1
 have kO:sB=sB.set ib (.row ((Fp K q.2.seen q.2.sites 0).map Aw).flatten 45 gb 0):=by
  have h3:Fp K q.2.seen q.2.sites 0=q.2.sites:=by unfold Fp;simp[Jr]
  rw[h3];exact(M4 ((ko ib jn).trans qz)).symm
 have kP:Fp K q.2.seen q.2.sites q.2.sites.length=(q.2.sto K).sites:=by
  unfold Fp Ent.sto;simp
 subst kb;simp only[go_sem,Ay h',Md h',ho,kM];rw[<-jy,kO];refine Aq (A7l jK vb qQ qh AA jH AA ?_ 0 (Ax _)) rfl;rw[kP];have vA:(q.2.sto K).sites.length=q.2.sites.length:=S3 _ _ _ _;obtain⟨sE,jz⟩:∃ sE:St,sE=sB.set ib (.row (((q.2.sto K).sites.map Aw).flatten) 45 gb 0):=⟨_,rfl⟩;have jJ:sE.length=sB.length:=by rw[jz];simp
 have kq:∀ j,j<s.length->j≠ib->sE[j]?=s[j]?:=fun j hj jW=>by grind
 have gq:sE[s.length]?=some (.row [iV q.2.kind,.sl ib gb 0 q.2.sites.length 3 true,iV q.2.seen,iV q.2.missed] 43 0 0):=by rw[jz,Cc AA];exact jH
 have g2:=(kq 2 kn AA).trans h2
 have qq:GW sE 3 45 3 (.sl ib gb 0 q.2.sites.length 3 true) ((q.2.sto K).sites.map Aw):=by
  refine .inr ⟨fun e=>?_,ib,gb,by grind,?_,jm⟩
  .have h3:=congrArg List.length e
   grind
  .grind
 obtain⟨s',ha,vp,jQ⟩:=Ake qq (M3 _) (args:=[SL true 0 ((Ly K E i).map Ent.row),.agg [iV q.2.kind,.sl ib gb 0 q.2.sites.length 3 true,iV q.2.seen,iV q.2.missed]]) (v:=SL true 0 ((K1 (q.2.sto K) (Ly K E i)).map Ent.row)) (by simp[Ag,V.refs,Q8,Hq])
 have jp:Fn TT PT 19 [SL true 0 ((Ly K E i).map Ent.row),.agg [iV q.2.kind,SL true 0 ((q.2.sto K).sites.map Aw),iV q.2.seen,iV q.2.missed]] (SL true 0 ((K1 (q.2.sto K) (Ly K E i)).map Ent.row)):=
  A50 (Ly K E i) (q.2.sto K) AA (fun e he=>by
   obtain⟨y,hy,rfl⟩:=v3 e he;have h3:(y.sto K).sites.length=y.sites.length:=S3 _ _ _ _
   grind) AA
 rw[<-jz];have ja:=(jQ 2 (by grind[V.refs])).trans g2;simp only[go_sem,g2,gq];refine A0c (.cons (Iv (Abj ..)) (.cons (Tl (.cons (Fj rfl) (.cons (Mm qq AA (Gz _) (M3 _)) (.cons (Fj rfl) (.cons (Fj rfl) .nil))))) .nil)) jp ha ?_
 have jT:∀ j,j<s.length->j≠ib->j≠2->∀ X:Ob,(s'.set 2 X)[j]?=s[j]?:=fun j hj h3 h4 X=>by
  rw[Cc (Ne.symm h4),jQ j (by simpa[V.refs] using h3)]
  grind
 simp only[go_sem,ja,i1];refine Aq (ih (i+1,_) AA ⟨h',?_,?_,?_,?_⟩) rfl
 .grind
 .grind[Ase]
 .refine .inr ⟨kS,iu,g,by grind,?_,qj⟩
  grind
 .intro r hr;have kZ:r∈L.drop i:=by rw[jZ];exact Ci _ hr
  obtain⟨r1,r2⟩:=jl r kZ;refine⟨r1,?_⟩;rcases r2 with r2 | ⟨r2,jb,gj,r3,r4,r5⟩
  .exact .inl r2
  .refine .inr ⟨r2,jb,gj,r3,?_,r5⟩;have h5:=kC.sublist (List.drop_sublist i L);rw[jZ]at h5;have qo:=(K9.1 h5).1 r hr;have qo:=qo ib (by grind[V.refs]);have jW:jb≠ib:=fun e=>qo (by grind[V.refs])
   grind
def Blw{p:Gp}(hp:PY p):(Ch p).length<=1000000000000:=by
 have h1:(G7 (H1 p)).length=(Ik p).length:=Aaa p.thrs;have:=Ak5 hp.px
 grind[Aab]
def A4s(K:List Aj)(l:List Item):(K4 K l).length<=20/\∀ e∈K4 K l,2<=e.sites.length/\e.sites.length<=4:=by
 obtain⟨b1,b2,b3⟩:=Aap l 20;obtain⟨v1,v2,v3⟩:=Afa K (F3 l 20) (F3 l 20).length;refine⟨by grind[K4],fun e he=>?_⟩;obtain⟨y,hy,rfl⟩:=v3 e he;obtain⟨x,-,rfl⟩:=b3 y hy;have h3:(x.ent.sto K).sites.length=x.ent.sites.length:=S3 _ _ _ _
 grind[Xe,X9]
