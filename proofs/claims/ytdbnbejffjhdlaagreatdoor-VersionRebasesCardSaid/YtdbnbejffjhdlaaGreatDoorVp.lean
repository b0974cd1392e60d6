/- Walks: an entry carried over to the other version. -/
import Derived.Test.YtdbnbejffjhdlaaGreatDoorUs
set_option linter.all false
namespace Go.Proofs.YtdbnbejffjhdlaaGreatDoor.KM
open Go
def Ah1{ks:List A0}{m:List Int}{k:A0}:∀ l:List A0,Ft ks m (l++[k])=(Ft ks m l).bind fun r=>(Gd ks m k).map fun n=>r++[n]
 | []=>by
  cases h:Gd ks m k<;>simp[Ft,h]
 | a::l=>by
  rw[Jb,Ft,Ft,Ah1 l]
  cases Gd ks m a with
  | none=>rfl
  | some n=>
   simp only
   cases Ft ks m l with
   | none=>rfl
   | some r=>cases Gd ks m k<;>rfl
def Ai0{ks:List A0}{m:List Int}{b:Int}(hm:∀ x∈m,x<b):∀ {l:List A0} {r:List Nat},Ft ks m l=some r->∀ n∈r,(n:Int)<b
 | [],r,h,n,hn=>by
  rw[Ft]at h;rw[<-Iu h]at hn;cases hn
 | k::l,r,h,n,hn=>by
  rw[Ft]at h
  cases h1:Gd ks m k with
  | none=>rw[h1]at h;cases h
  | some n'=>
   rw[h1]at h;simp only at h
   cases h2:Ft ks m l with
   | none=>rw[h2]at h;cases h
   | some r'=>
    rw[h2]at h;rw[<-Iu h]at hn;rcases Bo.1 hn with rfl | hn
    .unfold Gd at h1
     split at h1
     .rename_i s hs
      split at h1
      .cases h1
      .rename_i h3
       cases h4:m[s]? with
       | none=>rw[E0,h4]at h3;exact absurd AP h3
       | some x=>
        rw[E0,h4,V2]at h1 h3;have:=hm x (F0 h4);have:=Iu h1;omega
     .cases h1
    .exact Ai0 hm h2 n hn
def Iq(K:List A0)(M:List Int)(J:List A0)(e:Ent):Option Ent:=(Ft K M e.sites).map fun r=>⟨e.kind,(Ip e.kind (r.map fun n:Nat=>(n:Int))).map (fun s=>J.getD s.toNat kz),e.seen,e.missed,true,0⟩
def Anl:Option Ent->V
 | some y=>.tup [.agg y.row,.bool true]
 | none=>.tup [.agg [.int .i64 0,.nils,.int .i64 0,.int .i64 0],.bool false]
def Atx{P:Int->Prop}{kind:Int}{L:List Int}(h:∀ x∈L,P x):∀ x∈Ip kind L,P x:=by
 unfold Ip
 split
 .exact fun x hx=>h x ((Apj L).mem_iff.1 hx)
 .split
  .exact Aib (P:=fun l=>∀ x∈l,P x) (fun i x hx=>h x (A88 hx)) _ _ h
  .exact h
def Ajn(kind:Int)(L:List Int):(Ip kind L).length=L.length:=by
 unfold Ip
 split
 .exact Ac6 L
 .split
  .exact Aib (P:=fun l=>l.length=L.length) (fun i=>Ur L i) _ _ rfl
  .rfl
inductive IntsL (s:St) (L:List Int):V->Prop
 | set {z:Bool} {t:Nat}:IntsL s L (SL z t (Ao L))
 | obj {i g e:Nat}:s[i]?=some (.row (Di L) e g 0)->4<=i->IntsL s L (.sl i g 0 L.length 1 true)
def Ajo{s:St}{u:V}{L:List Int}(h:IntsL s L u):Mc u=some (iV (L.length:Int)):=by
 cases h with
 | set=>rw[Aah,F2]
 | obj _ _=>simp only[Ax9]
def ilo{L:List Int}{e g j:Nat}{r:Int}(hr:L[j]?=some r):Mf (some (.row (Di L) e g 0)) g 1 true j=some (iV r):=by
 have h5:(Di L)[j]?=some (iV r):=by
  unfold Di;rw[Ai,hr];rfl
 have h6:=(Al.1 h5).1;rw[Af1,if_pos ⟨rfl,by omega⟩,Gr h6,(Al.1 h5).2];rfl
def Ajp{J:List A0}{q:Gp}(gk:∀ (s:Nat) (k:A0),J[s]?=some k->Fn TT PT 54 [.agg (gR q),iV (s:Int)] (.tup [.agg (kR k),.bool true]))
  {L:List Int} (hL:∀ x∈L,0<=x/\x<(J.length:Int)) (jO:L.length<=1000) {v:V} {s0:St} (hv:IntsL s0 L v) (h4:4<=s0.length)
  (h2:s0[2]?=some (gO q))
  {kd sn ms:Int} {k0:List It} {Q:Env->St->Prop}
  (qj:∀ (u:V) (s:St),(∀ i,i<s0.length->s[i]?=s0[i]?)->s[s0.length]?=some (.row [iV kd,u,iV sn,iV ms] 55 0 0)->GW s 3 57 (s0.length+1) u ((L.map fun x=>J.getD x.toNat kz).map Aw)->W TT PT k0 [(6,.ptr 2 0 0),(8,.ptr 3 0 0),(14,.ptr s0.length 0 0),(74,v),(75,iV (L.length:Int)),(76,iV (L.length:Int))] s Q) :
  W TT PT (.l [6,8,14,74,75,76] lp21_1::.b 3::k0) [(6,.ptr 2 0 0),(8,.ptr 3 0 0),(14,.ptr s0.length 0 0),(74,v),(75,iV (L.length:Int)),(76,iV 0)] (s0++[.row [iV kd,.nils,iV sn,iV ms] 55 0 0]) Q:=by
 refine Bh (α:=Nat × V × St) (fun a=>L.length - a.1) (fun a=>[(6,.ptr 2 0 0),(8,.ptr 3 0 0),(14,.ptr s0.length 0 0),(74,v),(75,iV (L.length:Int)),(76,iV (a.1:Int))]) (fun a=>a.2.2)
  (fun a=>a.1<=L.length/\(∀ i,i<s0.length->a.2.2[i]?=s0[i]?)/\a.2.2[s0.length]?=some (.row [iV kd,a.2.1,iV sn,iV ms] 55 0 0)/\GW a.2.2 3 57 (s0.length+1) a.2.1 (((L.take a.1).map fun x=>J.getD x.toNat kz).map Aw)) ?_ (0,.nils,_) ⟨Av _,fun i hi=>C3 hi,Nc _ _,De⟩
 rintro⟨j,u,s⟩ ⟨hj,hk,ho,hg⟩ jh;simp only at hj hk ho hg jh;refine Az Bk9 ?_;rcases Bb j L.length with h | h;rotate_left
 .have jV:j=L.length:=by omega
  subst jV;rw[Dg]at hg;simp only[go_sem,Bi h];exact qj u s hk ho hg
 obtain⟨x,hx,-,js⟩:=Bl h;obtain⟨kl,km⟩:=hL x js;obtain⟨r,rfl⟩:∃ r:Nat,x=r:=⟨x.toNat,by omega⟩;obtain⟨k,jj,-,-⟩:=Bl (l:=J) (i:=r) AA;have j1:IntKind.i64.wrap ((j:Int)+1)=((j+1:Nat):Int):=Ay AA;have qh:=(Al.1 ho).1
 have qt:((L.take (j+1)).map fun x=>J.getD x.toNat kz).map Aw=((L.take j).map fun x=>J.getD x.toNat kz).map Aw++[(kR k)]:=by
  rw[Hk,hx];simp only[Pf,Dl,A2,Bz,J0,E0,jj];rfl
 have jD:=(hk 2 AA).trans h2;obtain⟨u2,s5,e5,g5,l5,-,k5⟩:=G9 (bytes:=40) (y:=.lst 1 [(kR k)]) (ys:=[(kR k)]) (H0 (l:=[Ob.row (kR k) 57 0 0]) hg) AJ rfl AA (G6 _) AE AJ;have qx:∀ X,(s++[X])[s0.length]?=some (.row [iV kd,u,iV sn,iV ms] 55 0 0):=fun X=>Bs ho
 have jn:=(k5 s0.length AA).trans (qx _);have cu:=Lc (Bx g5);have cv:=Bx g5
 have jt:W TT PT (.l [6,8,14,74,75,76] lp21_1::.b 3::k0) [(6,.ptr 2 0 0),(8,.ptr 3 0 0),(14,.ptr s0.length 0 0),(74,v),(75,iV (L.length:Int)),(76,iV ((j+1:Nat):Int))] (s5.set s0.length (.row [iV kd,u2,iV sn,iV ms] 55 0 0)) Q:=by
  refine jh (j+1,u2,_) AH ⟨h,fun i hi=>?_,?_,?_⟩
  .simp only;rw[Bk AA,k5 i AA,C3 AA];exact hk i hi
  .simp only;rw[Bv (Al.1 jn).1]
  .simp only;rw[qt];exact Dv g5 AA
 cases hv with
 | set=>
  have ke:(Ao L)[j]?=some [iV (r:Int)]:=by unfold Ao;rw[Ai,hx];rfl
  simp only[go_sem,Ar h,ke,jD];refine Ab (gk r k jj) AB ?_;simp only[go_sem,qx,e5,jn,cu,cv,j1];exact Am jt rfl
 | obj hvo hv4=>
  have kb:=(hk _ (Al.1 hvo).1).trans hvo;simp only[go_sem,Ar h,Lt h,kb,ilo hx,jD];refine Ab (gk r k jj) AB ?_;simp only[go_sem,qx,e5,jn,cu,cv,j1];exact Am jt rfl
set_option maxHeartbeats 4000000 in
def A9c{p q:Gp}(hp:PX p)(hq:PX q)(M:List Int)(qA:M.length=(B9 p).length)(hM:∀ x∈M,x<((B9 q).length:Int))(e:Ent)(hs:e.sites.length<=1000)(jX:e.sites≠[])(hK:(B9 p).length<=1000000000000):
  Fn TT PT 21 [.agg e.row,.agg p.row,.agg q.row,SL true 0 (Ao M)] (Anl (Iq (B9 p) M (B9 q) e)):=by
 have gs:=fun k=>Bdp hp k hK
 have gk:=fun(s:Nat) (k:A0) (h:(B9 q)[s]?=some k)=>A82 hq h
 have qO:=D7 p;have jo:=D7 q;rw[qO]at gs ⊢;rw[jo]at gk ⊢;generalize B9 p=K at *;generalize B9 q=J at *;have qB:=F2 M;have jf:(e.sites.map Aw).length=e.sites.length:=Aj ..
 have qc:∀ (j:Nat) (k:A0),e.sites[j]?=some k->Mb 3 e.sl (iV (j:Int))=some (.imm (kR k) 0):=fun j k hk=>by
  have jq:(e.sites.map Aw)[j]?=some (kR k):=by rw[Ai,hk];rfl
  unfold Ent.sl;rw[Aez,Ajz,jq];rfl
 have qp:Mc e.sl=some (iV (e.sites.length:Int)):=by unfold Ent.sl;rw[Aah,jf]
 have jT:e.sl.cellB=true:=by unfold Ent.sl;exact Sk ..
 have jR:(e.sites.length*8<=140737488355328)=True:=eq_true AA;obtain⟨σ0,qS⟩:∃ σ0:St,σ0=[eO e e.sl,gO p,gO q,.row [iV 0,.nils,iV 0,iV 0] 55 0 0]:=⟨_,rfl⟩;refine Bc T21 rfl ?_;unfold Ent.row;simp only[go_sem,jR,qp]
 refine Bh (α:=Nat × V × St × List Nat) (fun a=>e.sites.length - a.1) (fun a=>[(3,SL true 0 (Ao M)),(4,.ptr 0 0 0),(5,.ptr 1 0 0),(6,.ptr 2 0 0),(8,.ptr 3 0 0),(10,a.2.1),(24,e.sl),(25,iV (e.sites.length:Int)),(26,iV (a.1:Int))]) (fun a=>a.2.2.1)
  (fun a=>a.1<=e.sites.length/\Ft K M (e.sites.take a.1)=some a.2.2.2/\(∀ j,j<4->a.2.2.1[j]?=σ0[j]?)/\4<=a.2.2.1.length/\GV a.2.2.1 1 3 4 a.2.1 (Ao (a.2.2.2.map fun n:Nat=>(n:Int)))) ?_ (0,_,_,[]) ⟨Av _,rfl,fun j hj=>by rw[qS];match j,hj with | 0,_=>rfl | 1,_=>rfl | 2,_=>rfl | 3,_=>rfl,by simp,.inr ⟨4,0,rfl,rfl,An _⟩⟩
 rintro⟨i,u,s,r⟩ ⟨hi,hc,h0,qZ,hg⟩ ih;simp only at hi hc h0 qZ hg ih;refine Az Bk8 ?_;have e1:=h0 1 AA;have e3:=h0 3 AA;have e0:=h0 0 AA;have e2:=h0 2 AA;rw[qS]at e0 e1 e2 e3;simp only[Tw,Pc]at e0 e1 e2 e3;rcases Bb i e.sites.length with h | h
 .obtain⟨k,hk,-,jk⟩:=Bl h;have i1:IntKind.i64.wrap ((i:Int)+1)=((i+1:Nat):Int):=Ay AA;have qt:e.sites.take (i+1)=e.sites.take i++[k]:=by rw[Hk,hk];rfl
  have hA:∀ X,(s++[X])[1]?=some (gO p):=fun X=>Bs e1
  have jw:∀ X,(s++[X])[3]?=some (.row [iV 0,.nils,iV 0,iV 0] 55 0 0):=fun X=>Bs e3
  have qd:=gs k;unfold sI at qd
  have qb:Gd K M k=none->Iq K M J e=none:=fun h1=>by
   unfold Iq;rw[Acr.2 ⟨k,jk,h1⟩];rfl
  have qg:∀ X Y:Ob,((s++[X]).set 3 Y)[3]?=some Y:=fun X Y=>Bv AJ
  have next:Ft K M (e.sites.take (i+1))=(Gd K M k).map fun n=>r++[n]:=by rw[qt,Ah1,hc,Cy]
  cases hsn:L7 K k with
  | none=>
   have qf:Gd K M k=none:=by unfold Gd;rw[hsn]
   rw[hsn]at qd;rw[qb qf];simp only[go_sem,Ar h,qc i k hk,hA];refine Ab qd AB ?_;simp only[go_sem,jw,qg];exact Fp AK
  | some s'=>
   rw[hsn]at qd;have qs:s'<M.length:=by rw[qA];exact(Al.1 (Wc.1 hsn).1).1
   obtain⟨m,hm,-,qv⟩:=Bl qs;have qL:(Ao M)[s']?=some [iV m]:=by unfold Ao;rw[Ai,hm];rfl
   have qH:M.getD s' (-1)=m:=by rw[E0,hm];rfl
   have f3:((s':Int)<0)=False:=eq_false AA;have f4:((s':Int)>=(M.length:Int))=False:=eq_false AA;by_cases qa:m<0
   .have f5:(m<0)=True:=eq_true qa;have qf:Gd K M k=none:=by unfold Gd;rw[hsn];simp only[qH];rw[if_pos qa]
    rw[qb qf];simp only[go_sem,Ar h,qc i k hk,hA];refine Ab qd AB ?_;simp only[go_sem,f3,qB,f4,Ar qs,qL,f5,jw,qg];exact Fp AK
   .have f5:(m<0)=False:=eq_false qa;have qf:Gd K M k=some m.toNat:=by unfold Gd;rw[hsn];simp only[qH];rw[if_neg qa]
    rw[qf]at next
    have qi:=Wd hc;rw[D5]at qi;obtain⟨v2,s3,jb,g3,l3,-,k3⟩:=Akv (bytes:=8) (y:=.lst 1 [[iV m]]) (ys:=[[iV m]]) (Ba5 (l:=[Ob.row (kR k) 57 0 0]) hg) AJ rfl AA (Ie _) AE (by rw[F2];simp;omega);simp only[go_sem,Ar h,qc i k hk,hA];refine Ab qd AB ?_;simp only[go_sem,f3,qB,f4,Ar qs,qL,f5,jb,i1];refine Am (ih (i+1,v2,s3,r++[m.toNat]) AH ⟨h,next,fun j hj=>?_,by simp at l3;simp only;omega,?_⟩) rfl
    .simp only;rw[k3 j AA,C3 AA];exact h0 j hj
    .simp only;rw[Dl,Adc,A2,Bz,Ab5 AA];exact g3
 have qI:i=e.sites.length:=by omega
 subst qI;rw[Dg]at hc;have qi:=Wd hc;have qE:Iq K M J e=some ⟨e.kind,(Ip e.kind (r.map fun n:Nat=>(n:Int))).map (fun s=>J.getD s.toNat kz),e.seen,e.missed,true,0⟩:=by unfold Iq;rw[hc];rfl
 have jY:∀ n∈r,(n:Int)<(J.length:Int):=Ai0 hM hc
 have jd:∀ x∈Ip e.kind (r.map fun n:Nat=>(n:Int)),0<=x/\x<(J.length:Int):=Atx fun x hx=>by
  obtain⟨n,hn,rfl⟩:=Cs.1 hx;exact⟨by omega,jY n hn⟩
 have ki:(Ip e.kind (r.map fun n:Nat=>(n:Int))).length=e.sites.length:=by rw[Ajn,Aj,qi]
 have jp:(r.map fun n:Nat=>(n:Int))≠[]:=fun e1=>by
  have h1:=congrArg List.length e1;rw[Aj,qi]at h1;exact jX (M6.1 h1)
 have jO:(r.map fun n:Nat=>(n:Int)).length=e.sites.length:=by rw[Aj,qi]
 rw[qE];clear qE;generalize(r.map fun n:Nat=>(n:Int))=L at *;rcases hg with⟨-,hg⟩ | ⟨ii,g,rfl,ho,qr⟩
 .exact absurd (by unfold Ao at hg;exact List.map_eq_nil_iff.1 hg) jp
 have qW:GW s 1 3 4 (.sl ii g 0 (Ao L).length 1 true) (Ao L):=.inr ⟨by unfold Ao;simpa using jp,ii,g,rfl,ho,qr⟩;have ji:=(Al.1 ho).1;rw[F2]at qW ⊢;rw[Amp]at ho;generalize hZ:Ip e.kind L=Z at *;by_cases qJ:e.kind=1
 .have qD:Z=Jp L:=by rw[<-hZ];unfold Ip;rw[if_pos qJ]
  clear hZ;subst qD
  have q1:Abh [.sl ii g 0 L.length 1 true] s=some (.tup [],s.set ii (.row (Di (Jp L)) 3 g 0)):=by
   simp only[Abh,ho,Arv];rw[if_pos ⟨trivial,trivial,by omega⟩]
  have f1:(e.kind==1)=true:=by simpa using qJ
  simp only[go_sem,Bi h,e0,f1];refine Jf (.spec T52 rfl rfl q1) ?_;have qk:∀ j,j<4->(s.set ii (.row (Di (Jp L)) 3 g 0))[j]?=s[j]?:=fun j hj=>Bk AA
  have hv:IntsL (s.set ii (.row (Di (Jp L)) 3 g 0)) (Jp L) (.sl ii g 0 L.length 1 true):=by
   rw[<-Ac6 L];exact .obj (Bv ji) qr
  have qQ:=Ajo hv;have qM:4<=(s.set ii (.row (Di (Jp L)) 3 g 0)).length:=by simp;omega
  generalize s.set ii (.row (Di (Jp L)) 3 g 0)=s2 at *;generalize V.sl ii g 0 L.length 1 true=v at *;have q0:=(qk 0 AA).trans e0;have q2:=(qk 2 AA).trans e2;have q3:=(qk 3 AA).trans e3;simp only[go_sem,q0,qQ];refine Am (Ajp gk jd AA hv qM q2 fun u s3 qK qN qg=>?_) rfl;have qo:=(qK 3 AA).trans q3;have qP:=Bx qg;have qy:=fun X:Ob=>Bv (a:=X) (Al.1 qo).1
  simp only[go_sem,qN,qo,qP,qy];exact Ail (pre:=[iV e.kind]) (post:=[iV e.seen,iV e.missed]) (Dv qg AA) AA (G6 _) (Lp _) rfl rfl rfl
 have f1:(e.kind==1)=false:=by simpa using qJ
 by_cases qX:e.kind=2
 .have qD:Z=Lh L:=by rw[<-hZ];unfold Ip;rw[if_neg qJ,if_pos qX];rfl
  clear hZ;subst qD;have f2:(e.kind==2)=true:=by simpa using qX
  have g5:=Bdw true 0 L jp AA;obtain⟨s2,ha,kj,jg⟩:=Aiz qW (Pq _) (args:=[.sl ii g 0 L.length 1 true]) (v:=SL true 0 (Ao (Lh L))) (by simp[Ah,V.refs]);simp only[go_sem,Bi h,e0,f1,f2];refine Alz (.cons (Oo (I1 qW AA (Ie _) (Pq _)) (Bx qW)) .nil) g5 ha ?_;have qk:∀ j,j<4->s2[j]?=s[j]?:=fun j hj=>jg j (by simp[V.refs];omega)
  have hv:IntsL s2 (Lh L) (SL true 0 (Ao (Lh L))):=.set;have qQ:=Ajo hv;have qM:4<=s2.length:=by omega
  generalize SL true 0 (Ao (Lh L))=v at *;have q0:=(qk 0 AA).trans e0;have q2:=(qk 2 AA).trans e2;have q3:=(qk 3 AA).trans e3;simp only[go_sem,q0,qQ];refine Am (Ajp gk jd AA hv qM q2 fun u s3 qK qN qg=>?_) rfl;have qo:=(qK 3 AA).trans q3;have qP:=Bx qg;have qy:=fun X:Ob=>Bv (a:=X) (Al.1 qo).1
  simp only[go_sem,qN,qo,qP,qy];exact Ail (pre:=[iV e.kind]) (post:=[iV e.seen,iV e.missed]) (Dv qg AA) AA (G6 _) (Lp _) rfl rfl rfl
 .have qD:Z=L:=by rw[<-hZ];unfold Ip;rw[if_neg qJ,if_neg qX]
  clear hZ;subst qD;have f2:(e.kind==2)=false:=by simpa using qX
  have qk:∀ j,j<4->s[j]?=s[j]?:=fun _ _=>rfl
  have hv:IntsL s Z (.sl ii g 0 Z.length 1 true):=.obj ho qr;have qQ:=Ajo hv;have qM:=qZ;generalize V.sl ii g 0 Z.length 1 true=v at *;simp only[go_sem,Bi h,e0,f1,f2];have q0:=(qk 0 AA).trans e0;have q2:=(qk 2 AA).trans e2;have q3:=(qk 3 AA).trans e3;simp only[go_sem,q0,qQ];refine Am (Ajp gk jd AA hv qM q2 fun u s3 qK qN qg=>?_) rfl;have qo:=(qK 3 AA).trans q3;have qP:=Bx qg;have qy:=fun X:Ob=>Bv (a:=X) (Al.1 qo).1
  simp only[go_sem,qN,qo,qP,qy];exact Ail (pre:=[iV e.kind]) (post:=[iV e.seen,iV e.missed]) (Dv qg AA) AA (G6 _) (Lp _) rfl rfl rfl
def Tr(x y:Ent):Int:=if Cw x y<0 then -1 else if Cw y x<0 then 1 else 0
def Av7{x y:Ent}:Tr x y<0↔Cw x y<0:=by
 unfold Tr
 split
 .simp[*]
 .split<;>simp[*]
def Bdy(x y:Ent)(hx:x.sites.length<=9223372036854775807)(hy:y.sites.length<=9223372036854775807):Fn TT PT 24 [.agg x.row,.agg y.row] (iV (Tr x y)):=by
 have g1:=Aeb x y hx hy;have g2:=Aeb y x hy hx;refine Bc T24 rfl ?_;unfold Ent.row at *;simp only[go_sem];refine Ab g1 AB ?_;simp only[go_sem];by_cases h1:Cw x y<0
 .have f1:decide (Cw x y<0)=true:=decide_eq_true h1;simp only[go_sem,f1];exact Ae rfl (by unfold Tr;rw[if_pos h1])
 have f1:decide (Cw x y<0)=false:=decide_eq_false h1;simp only[go_sem,f1];refine Ab g2 AB ?_;simp only[go_sem];by_cases h2:Cw y x<0
 .have f2:decide (Cw y x<0)=true:=decide_eq_true h2;simp only[go_sem,f2];exact Ae rfl (by unfold Tr;rw[if_neg h1,if_pos h2])
 have f2:decide (Cw y x<0)=false:=decide_eq_false h2;simp only[go_sem,f2];exact Ae rfl (by unfold Tr;rw[if_neg h1,if_neg h2])
def Li(L:List Ent):List V:=(L.map Ent.row).flatten
def A5i{s:St}{i g n b ii:Nat}{w:Bool}(hi:i<s.length)(hn:n<=1000){k0:List It}{Q:Env->St->Prop}{R A:List Ent}{x:Ent}(hs:∀ e∈A,e.sites.length<=1000)
  (qj:∀ (D:List Ent) (j:Nat),N6 Js Ent.ks D->D.Perm A->W TT PT k0 [(0,.sl i g 0 n 4 w),(1,iV 0),(2,iV (b:Int)),(3,.fn 24 [] []),(8,iV (ii:Int)),(9,iV (j:Int))] (s.set i (.row (Li (D++R)) 55 g 0)) Q)
  (P0:List Ent) (hA:(P0++[x]).Perm A) (kh:A.length+R.length=n) (h0:N6 Js Ent.ks P0) :
  W TT PT (.l [0,1,2,3,8,9] lp91_0::.b 2::k0) [(0,.sl i g 0 n 4 w),(1,iV 0),(2,iV (b:Int)),(3,.fn 24 [] []),(8,iV (ii:Int)),(9,iV (P0.length:Int))] (s.set i (.row (Li (P0++x::R)) 55 g 0)) Q:=by
 refine Bh (α:=List Ent × List Ent) (fun a=>a.1.length) (fun a=>[(0,.sl i g 0 n 4 w),(1,iV 0),(2,iV (b:Int)),(3,.fn 24 [] []),(8,iV (ii:Int)),(9,iV (a.1.length:Int))]) (fun a=>s.set i (.row (Li (a.1++x::(a.2++R))) 55 g 0))
  (fun a=>InsI Js Ent.ks a.1 x a.2/\(a.1++x::a.2).Perm A) ?_ (P0,[]) ⟨Bdr h0,hA⟩
 rintro⟨P,Z⟩ ⟨hI,hP⟩ ih;simp only at hI hP ih;refine Az Bmm ?_;have qh:=hP.length_eq;rw[Aq,Bg]at qh;have qe:=fun X:Ob=>Bv (a:=X) hi
 have Agw:=fun X Y:Ob=>Qs (l:=s) (i:=i) (a:=X) (b:=Y)
 rcases List.eq_nil_or_concat P with rfl | ⟨P,p,rfl⟩
 .simp only[go_sem];refine Ad AD ?_;simp only[go_sem];have:=qj (x::Z) 0 (A5b lin_p hI) hP;exact this
 rw[List.concat_eq_append]at *;have hj:((P++[p]).length:Int)=((P.length+1:Nat):Int):=by simp
 have w1:IntKind.i64.wrap (((P.length+1:Nat):Int) - 1)=((P.length:Nat):Int):=by rw[B7 (by simp at qh;omega)];omega
 have hD:P++[p]++x::(Z++R)=P++p::x::(Z++R):=by simp
 have qU:(P++p::x::(Z++R)).length=n:=by simp at qh ⊢;omega
 have hx:((P++p::x::(Z++R)).map Ent.row)[P.length+1]?=some x.row:=by simp
 have hp:((P++p::x::(Z++R)).map Ent.row)[P.length]?=some p.row:=by simp
 have ja:=Aev (e:=55) (g:=g) (z:=0) (Gk _) hx;have jG:=Aev (e:=55) (g:=g) (z:=0) (Gk _) hp;have jB:P.length+1<n:=by simp at qh;omega
 have jl:P.length<n:=by omega
 have f1:((0:Int)<((P.length+1:Nat):Int))=True:=eq_true AA;have gc:=Bdy x p (by have:=hs x (hP.mem_iff.1 AE);omega) (by have:=hs p (hP.mem_iff.1 AE);omega);unfold Li at *;rw[hj,hD];simp only[go_sem,f1];refine Ad AD ?_;simp only[go_sem,f1,Lt jB,Lt jl,w1,qe,ja,jG];simp only[Q0]at gc;refine Ax gc AB ?_;by_cases qm:Cw x p<0;rotate_left
 .have f2:(Tr x p<0)=False:=eq_false fun h=>qm (Av7.1 h)
  simp only[go_sem,f2];have h2:=qj (P++p::x::Z) (P.length+1) (by have:=A87 lin_p hI qm;rwa [Dk]at this) (by simpa using hP);rw[Dk]at h2;exact h2
 have f2:(Tr x p<0)=True:=eq_true (Av7.2 qm);simp only[go_sem,f2];have hF:∀ L:List Ent,((L.map Ent.row).flatten).length=L.length*4:=fun L=>by rw[Ga (Gk L),Aj]
 have q1:=Aab (r:=p.row) (i:=P.length+1) (Gk (P++p::x::(Z++R))) AE rfl;have q2:=Aab (r:=x.row) (i:=P.length) (Gk (P++p::p::(Z++R))) AE rfl;rw[show((P++p::x::(Z++R)).map Ent.row).set (P.length+1) p.row=(P++p::p::(Z++R)).map Ent.row by simp,Dk]at q1;rw[show((P++p::p::(Z++R)).map Ent.row).set P.length x.row=(P++x::p::(Z++R)).map Ent.row by simp,Dk]at q2;simp only[Q0,Jb,Ci]at q1 q2;have l1:((P.length+1)*4+4<=((P++p::x::(Z++R)).map Ent.row).flatten.length)=True:=eq_true (by rw[hF];omega);have l2:(P.length*4+4<=((P++p::p::(Z++R)).map Ent.row).flatten.length)=True:=eq_true (by rw[hF];simp at qU ⊢;omega);refine Ad AD ?_;simp only[go_sem,Lt jB,Lt jl,w1,qe,ja,jG,l1,q1,Agw];refine J6 (by repeat (first | exact trivial | refine⟨.inl AK,?_⟩ | refine⟨by rfl,?_⟩ | refine⟨.inr ⟨by rfl,by rfl⟩,?_⟩)) (by repeat (first | exact trivial | refine⟨.inl AK,?_⟩ | refine⟨by rfl,?_⟩ | refine⟨.inr ⟨by rfl,by rfl⟩,?_⟩)) ?_;simp only[go_sem,Lt jl,qe,l2,q2,Agw];refine J6 (by repeat (first | exact trivial | refine⟨.inl AK,?_⟩ | refine⟨by rfl,?_⟩ | refine⟨.inr ⟨by rfl,by rfl⟩,?_⟩)) (by repeat (first | exact trivial | refine⟨.inl AK,?_⟩ | refine⟨by rfl,?_⟩ | refine⟨.inr ⟨by rfl,by rfl⟩,?_⟩)) ?_;simp only[go_sem,w1];exact Am (ih (P,p::Z) AE ⟨A86 hI qm,(A5c P Z p x).symm.trans (by simpa using hP)⟩) rfl
def A5j(L:List Ent):(Li L).all V.rowB=true:=Gl (J3 L)
def Ad2{s:St}{i g:Nat}(L:List Ent)(h:Cl s):Cl (s.set i (.row (Li L) 55 g 0)):=Fi h (by simp only[Ob.refs,Ff (A5j L)];simp)
def Av8{s:St}(hc:Cl s)(v:V)(a b:Nat)(h:b<=a+1)(ha:a<=1000):
  ∃ s',Th TT PT 91 [v,iV (a:Int),iV (b:Int),.fn 24 [] []] s (.tup []) s'/\s'=s:=by
 have w1:IntKind.i64.wrap ((a:Int)+1)=((a+1:Nat):Int):=Ay AA;have f1:(((a+1:Nat):Int)<(b:Int))=False:=eq_false AA;refine Xc T91 rfl ?_ rfl rfl (fun s' h=>by rw[h];exact⟨hc,An _⟩);simp only[go_sem,w1];refine Az Ayk ?_;simp only[go_sem,f1];trivial
def Bil{s:St}(hc:Cl s){i g:Nat}{w:Bool}(L:List Ent)(hn:L.length<=1000)(hi:s[i]?=some (.row (Li L) 55 g 0))(hs:∀ e∈L,e.sites.length<=1000):
  ∃ s',Th TT PT 91 [.sl i g 0 L.length 4 w,iV 0,iV (L.length:Int),.fn 24 [] []] s (.tup []) s'/\∃ D:List Ent,D.Perm L/\N6 Js Ent.ks D/\s'=s.set i (.row (Li D) 55 g 0):=by
 have ji:=(Al.1 hi).1
 refine Xc T91 rfl ?_ rfl rfl (fun s' h=>by
  obtain⟨D,-,-,rfl⟩:=h
  exact⟨Ad2 D hc,by simp⟩)
 have w0:IntKind.i64.wrap ((0:Int)+1)=((1:Nat):Int):=rfl;simp only[go_sem,w0]
 refine Bh (α:=Nat × List Ent × St) (fun a=>L.length - a.1) (fun a=>[(0,.sl i g 0 L.length 4 w),(1,iV 0),(2,iV (L.length:Int)),(3,.fn 24 [] []),(8,iV (a.1:Int))]) (fun a=>a.2.2)
  (fun a=>a.2.1.Perm (L.take a.1)/\N6 Js Ent.ks a.2.1/\a.2.2=s.set i (.row (Li (a.2.1++L.drop a.1)) 55 g 0)) ?_ (1,L.take 1,s) ⟨.refl _,by
   match L with
   | []=>exact .nil
   | [x]=>exact List.pairwise_singleton _ _
   | x::_::_=>exact List.pairwise_singleton _ _,by simp only;rw[Ja];exact(M9 hi).symm⟩
 rintro⟨j,D,s'⟩ ⟨hp,hl,jE⟩ ih;simp only at hp hl jE ih;subst jE;refine Az Ayk ?_;rcases Bb j L.length with h | h;rotate_left
 .rw[I9 h]at hp;simp only[go_sem,Bi h];rw[Dt h,Bw];exact⟨rfl,D,hp,hl,rfl⟩
 obtain⟨x,hx,kc,js⟩:=Bl h;have j1:IntKind.i64.wrap ((j:Int)+1)=((j+1:Nat):Int):=Ay AA;have qU:D.length=j:=by rw[hp.length_eq,D5];omega
 have qt:L.take (j+1)=L.take j++[x]:=by rw[Hk,hx];rfl
 rw[kc];simp only[go_sem,Ar h];refine Am (A5i (A:=D++[x]) (R:=L.drop (j+1)) (x:=x) ji hn (fun e he=>?_) (fun D' j' h1 h2=>?_) D (.refl _) (by rw[Aq,E3,qU,Hi];omega) hl) (by rw[qU])
 .rcases Ch.1 he with he | he
  .exact hs e (Jz (hp.mem_iff.1 he))
  .rw[D4.1 he];exact hs x js
 .simp only[go_sem,j1];exact Am (ih (j+1,D',_) AH ⟨by rw[qt];exact h2.trans (hp.append_right _),h1,rfl⟩) rfl
def A2v{s:St}(hc:Cl s):
  ∃ s',Th TT PT 55 [.nils,iV 0,.fn 24 [] []] s (.tup []) s'/\s'=s:=by
 obtain⟨s1,h1,rfl⟩:=Av8 hc .nils 0 0 AA AA;refine Xc T55 rfl ?_ rfl rfl (fun s' h=>by rw[h];exact⟨hc,An _⟩);simp only[go_sem];refine Az Al5 ?_;simp only[go_sem];refine B8 h1 ?_;simp only[go_sem];refine Az Al6 ?_;simp only[go_sem];trivial
def A5k{s:St}(hc:Cl s){i g:Nat}{w:Bool}(L:List Ent)(hn:L.length<=20)(hi:s[i]?=some (.row (Li L) 55 g 0))(hs:∀ e∈L,e.sites.length<=1000):
  ∃ s',Th TT PT 55 [.sl i g 0 L.length 4 w,iV (L.length:Int),.fn 24 [] []] s (.tup []) s'/\∃ D:List Ent,D.Perm L/\N6 Js Ent.ks D/\s'=s.set i (.row (Li D) 55 g 0):=by
 obtain⟨s1,h1,D,hp,hl,rfl⟩:=Bil hc (w:=w) L AA hi hs;have jS:=Ad2 (i:=i) (g:=g) D hc
 refine Xc T55 rfl ?_ rfl rfl (fun s' h=>by
  obtain⟨D,-,-,rfl⟩:=h
  exact⟨Ad2 D hc,by simp⟩)
 simp only[go_sem];refine Az Al5 ?_;by_cases jL:L.length=20
 .obtain⟨s2,h2,rfl⟩:=Av8 jS (.sl i g 0 L.length 4 w) 20 L.length AA AA;have f1:((20:Int)<=(L.length:Int))=True:=eq_true AA;have f2:((40:Int)<=(L.length:Int))=False:=eq_false AA;have f3:((20:Int)<(L.length:Int))=False:=eq_false AA
  have h1:Th TT PT 91 [.sl i g 0 L.length 4 w,iV 0,iV 20,.fn 24 [] []] s (.tup []) (s.set i (.row (Li D) 55 g 0)):=by
   rw[jL]at h1 ⊢;exact h1
  simp only[go_sem,f1];refine B8 h1 ?_;simp only[go_sem];refine Az Al5 ?_;simp only[go_sem,f2];refine B8 h2 ?_;simp only[go_sem];refine Az Al6 ?_;simp only[go_sem,f3];exact⟨rfl,D,hp,hl,rfl⟩
 .have f1:((20:Int)<=(L.length:Int))=False:=eq_false AA;have f3:((20:Int)<(L.length:Int))=False:=eq_false AA;simp only[go_sem,f1];refine B8 h1 ?_;simp only[go_sem];refine Az Al6 ?_;simp only[go_sem,f3];exact⟨rfl,D,hp,hl,rfl⟩
def A5l{s:St}(hc:Cl s):
  ∃ s',Th TT PT 23 [.nils,.fn 24 [] []] s (.tup []) s'/\s'=s:=by
 obtain⟨s1,h1,rfl⟩:=A2v hc;refine Xc T23 rfl ?_ rfl rfl (fun s' h=>by rw[h];exact⟨hc,An _⟩);simp only[go_sem];refine B8 h1 ?_;simp only[go_sem];trivial
def A9d{s:St}(hc:Cl s){i g:Nat}{w:Bool}(L:List Ent)(hn:L.length<=20)(hi:s[i]?=some (.row (Li L) 55 g 0))(hs:∀ e∈L,e.sites.length<=1000):
  ∃ s',Th TT PT 23 [.sl i g 0 L.length 4 w,.fn 24 [] []] s (.tup []) s'/\∃ D:List Ent,D.Perm L/\N6 Js Ent.ks D/\s'=s.set i (.row (Li D) 55 g 0):=by
 obtain⟨s1,h1,h2⟩:=A5k hc (w:=w) L hn hi hs
 refine Xc T23 rfl ?_ rfl rfl (fun s' h=>by
  obtain⟨D,-,-,rfl⟩:=h
  exact⟨Ad2 D hc,by simp⟩)
 simp only[go_sem];refine B8 h1 ?_;simp only[go_sem];exact⟨rfl,h2⟩
def Ad3{m:Nat}{xs:List (List V)}{i j:Nat}{r:List V}{c:V}(hl:∀ r∈xs,r.length=m)(hr:xs[i]?=some r)(hj:j<m):
  xs.flatten.take (i*m+j)++c::xs.flatten.drop (i*m+j+1)=(xs.set i (r.set j c)).flatten:=by
 obtain⟨hi,jZ⟩:=Al.1 hr;have qi:=hl r (F0 hr);have h1:=Aab (r:=r) hl hi qi;have h2:=Aab (r:=r.set j c) hl hi (by rw[Jc];exact qi);rw[show xs.set i r=xs by rw[<-jZ];exact List.set_getElem_self hi]at h1;rw[<-h2];have jN:=Ga hl
 have hA:(xs.flatten.take (i*m)).length=i*m:=by
  rw[D5,jN];have:i*m<=xs.length*m:=Fl m AA;omega
 generalize xs.flatten.drop (i*m+m)=B at *;generalize xs.flatten.take (i*m)=A at *;rw[<-h1,List.set_eq_take_append_cons_drop,if_pos AA]
 have e1:(A++r++B).take (i*m+j)=A++r.take j:=by
  rw[Dk,List.take_append,hA,I9 AA,show i*m+j - i*m=j by omega,Aha AA]
 have e2:(A++r++B).drop (i*m+j+1)=r.drop (j+1)++B:=by
  rw[Dk,Yl,hA,Dt AA,show i*m+j+1 - i*m=j+1 by omega,List.drop_append_of_le_length AA,Ci]
 rw[e1,e2];simp
def A2w{O:List Ent}{x e:Ent}(h:¬ Cw x e<0):Ky (O++[x]) e=O++[N7 x e]:=by
 unfold Ky;simp[h]
def A2x{O:List Ent}{x e:Ent}(h:Cw x e<0):Ky (O++[x]) e=O++[x]++[e]:=by
 unfold Ky;simp[h]
set_option maxHeartbeats 2000000 in
def A5m(z:Bool)(t:Nat)(S:List Ent)(hn:S.length<=1000)(hs:∀ e∈S,e.sites.length<=1000):
  Fn TT PT 26 [SL z t (S.map Ent.row)] (SL true 0 ((S.foldl Ky []).map Ent.row)):=by
 have jP:(S.map Ent.row).length=S.length:=Aj ..;refine Bc T26 rfl ?_;simp only[go_sem,jP]
 refine Bh (α:=Nat × V × St × List Ent) (fun a=>S.length - a.1) (fun a=>[(3,a.2.1),(7,SL z t (S.map Ent.row)),(8,iV (S.length:Int)),(9,iV (a.1:Int))]) (fun a=>a.2.2.1)
  (fun a=>a.1<=S.length/\a.2.2.2=(S.take a.1).foldl Ky []/\a.2.2.2.length<=a.1/\(∀ e∈a.2.2.2,e.sites.length<=1000)/\GW a.2.2.1 4 55 0 a.2.1 (a.2.2.2.map Ent.row)) ?_ (0,.nils,[],[]) ⟨Av _,rfl,An _,(fun e he=>by cases he),De⟩
 rintro⟨i,u,s,O⟩ ⟨hi,hO,je,qV,hg⟩ ih;simp only at hi hO je qV hg ih;refine Az Bla ?_;rcases Bb i S.length with h | h;rotate_left
 .simp only[go_sem,Bi h];rw[I9 h]at hO;rw[<-hO];exact Rb hg AA (Gk _) (J3 _)
 obtain⟨e,he,-,qq⟩:=Bl h;have i1:IntKind.i64.wrap ((i:Int)+1)=((i+1:Nat):Int):=Ay AA;have jy:=hs e qq;have qG:(S.map Ent.row)[i]?=some (eR e e.sl):=by rw[Ai,he];rfl
 have jm:(S.take (i+1)).foldl Ky []=Ky O e:=by rw[Hk,he,Pf,Acb,<-hO];rfl
 have qT:∀ X:Ob,(s++[X])[s.length]?=some X:=fun X=>Nc _ _
 have jU:=H0 (l:=[eO e e.sl]) hg;obtain⟨v2,s3,e3,g3,-,-,-⟩:=G9 (bytes:=48) (y:=.lst 1 [(eR e e.sl)]) (ys:=[(eR e e.sl)]) jU (Av _) rfl AA (Gk _) AE AJ;rcases List.eq_nil_or_concat O with rfl | ⟨O,x,rfl⟩
 .have ka:=Awt hg;simp only[go_sem,Ar h,qG,ka];refine Ad AD ?_;simp only[go_sem];simp only[go_sem,qT,e3,i1];exact Am (ih (i+1,v2,s3,[e]) AH ⟨h,jm.symm,by simp,fun y hy=>by rw[D4.1 hy];exact jy,g3⟩) rfl
 rw[List.concat_eq_append]at *;rcases hg with⟨-,hg⟩ | ⟨-,o,g,rfl,ho,-⟩
 .simp at hg
 have jW:((O++[x]).map Ent.row).length=O.length+1:=by simp
 rw[jW]at e3 ⊢;have hx:((O++[x]).map Ent.row)[O.length]?=some x.row:=by simp
 have ja:=Aev (e:=55) (g:=g) (z:=0) (Gk _) hx;have qx:=fun X:Ob=>Bs (l:=[X]) ho
 have f1:((0:Int)<((O.length+1:Nat):Int))=True:=eq_true AA;have je:O.length+1<=i:=by simpa using je
 have w1:IntKind.i64.wrap (((O.length+1:Nat):Int) - 1)=((O.length:Nat):Int):=by rw[B7 AA];omega
 have kf:=qV x AE;have gl:=Aeb x e AA AA;simp only[Q0]at gl;simp only[go_sem,Ar h,qG];refine Ad AD ?_;simp only[go_sem,f1,w1,Lt (V4 O.length),qx,ja,qT];refine Ax gl AB ?_;by_cases qm:Cw x e<0
 .have f2:decide (Cw x e<0)=true:=decide_eq_true qm;simp only[go_sem,f2,qT,e3,i1];refine Am (ih (i+1,v2,s3,O++[x]++[e]) AH ⟨h,by rw[jm,A2x qm],by simp;omega,fun y hy=>?_,?_⟩) rfl
  .rcases Ch.1 hy with hy | hy
   .exact qV y hy
   .rw[D4.1 hy];exact jy
  .simp only;rw[Dl];exact g3
 have f2:decide (Cw x e<0)=false:=decide_eq_false qm;simp only[go_sem,f2];have hF:∀ L:List Ent,((L.map Ent.row).flatten).length=L.length*4:=fun L=>by rw[Ga (Gk L),Aj]
 obtain⟨x2,qR⟩:∃ x2:Ent,x2={ x with seen:=max x.seen e.seen }:=⟨_,rfl⟩;have c2:=Vj (e:=55) (g:=g) (z:=0) (Ss (j:=2) (c:=iV x.seen) (Gk _) hx rfl);have q1:=Ad3 (j:=2) (c:=iV (max x.seen e.seen)) (Gk (O++[x])) hx AA;rw[show((O++[x]).map Ent.row).set O.length (x.row.set 2 (iV (max x.seen e.seen)))=(O++[x2]).map Ent.row by rw[qR];simp[Ent.row,Ent.sl]]at q1;have l1:(O.length*4+2+1<=((O++[x]).map Ent.row).flatten.length)=True:=eq_true (by rw[hF,Aq,Hi];omega);have kk:=(Al.1 ho).1;have ju:=fun X:Ob=>Bv (l:=s++[eO e e.sl]) (i:=o) (a:=X) AJ
 have jJ:∀ X:Ob,((s++[eO e e.sl]).set o X)[s.length]?=some (eO e e.sl):=fun X=>by rw[Bk AA];exact Nc _ _
 have jK:=fun X Y:Ob=>Qs (l:=s++[eO e e.sl]) (i:=o) (a:=X) (b:=Y)
 have jF:((O++[x2]).map Ent.row)[O.length]?=some [iV x.kind,x.sl,iV (max x.seen e.seen),iV x.missed]:=by rw[qR];simp[Ent.row,Ent.sl]
 have c3:=Vj (e:=55) (g:=g) (z:=0) (Ss (j:=3) (c:=iV x.missed) (Gk _) jF rfl);have q3:=Ad3 (j:=3) (c:=iV (min x.missed e.missed)) (Gk (O++[x2])) jF AA;rw[show((O++[x2]).map Ent.row).set O.length (([iV x.kind,x.sl,iV (max x.seen e.seen),iV x.missed]:List V).set 3 (iV (min x.missed e.missed)))=(O++[N7 x e]).map Ent.row by simp[Ent.row,Ent.sl,N7]]at q3;have l3:(O.length*4+3+1<=((O++[x2]).map Ent.row).flatten.length)=True:=eq_true (by rw[hF,Aq,Hi];omega);refine Ad AD ?_;simp only[go_sem,w1,Lt (V4 O.length),qx,c2,qT,l1,q1];refine J6 (by repeat (first | exact trivial | refine⟨.inl AK,?_⟩ | refine⟨by rfl,?_⟩ | refine⟨.inr ⟨by rfl,by rfl⟩,?_⟩)) (by repeat (first | exact trivial | refine⟨.inl AK,?_⟩ | refine⟨by rfl,?_⟩ | refine⟨.inr ⟨by rfl,by rfl⟩,?_⟩)) ?_;simp only[go_sem];refine Ad AD ?_;simp only[go_sem,w1,Lt (V4 O.length),ju,jJ,c3,l3,q3,jK];refine J6 (by repeat (first | exact trivial | refine⟨.inl AK,?_⟩ | refine⟨by rfl,?_⟩ | refine⟨.inr ⟨by rfl,by rfl⟩,?_⟩)) (by repeat (first | exact trivial | refine⟨.inl AK,?_⟩ | refine⟨by rfl,?_⟩ | refine⟨.inr ⟨by rfl,by rfl⟩,?_⟩)) ?_;simp only[go_sem,i1];refine Am (ih (i+1,.sl o g 0 (O.length+1) 4 true,_,O++[N7 x e]) AH ⟨h,by rw[jm,A2w qm],by simp;omega,fun y hy=>?_,.inr ⟨by simp,o,g,by simp,ju _,Av _⟩⟩) rfl;rcases Ch.1 hy with hy | hy
 .exact qV y (Rw _ hy)
 .rw[D4.1 hy];exact kf
def A2y{σ:St}{m e i g:Nat}{xs:List (List V)}{cs:List V}{c:Int}(ho:σ[i]?=some (.row xs.flatten e g 0))(hm:0<m)(hl:∀ r∈xs,r.length=m)(hr:∀ r∈xs,r.all V.rowB=true)(h1:cs.all V.rowB=true):
  FR (.tup [.agg cs,.sl i g 0 xs.length m true,iV c]) σ (.tup [.agg cs,.lst 0 xs,iV c]):=by
 obtain⟨hi,qw⟩:=Al.1 ho;have hx:Ah xs.flatten=[]:=Ff (Gl hr);have h0:ren 0 [i] i=0:=by simp[ren,Yk]
 refine .inr ⟨[i],?_,?_⟩
 .simp only[Hm,Cb,Gc,V.refs,Ah,Ff h1,Bp,Ce,U1 h1,V.cellB,Bw,Ci];simp[Ef,qw,Ob.refs,hx,hi]
 .simp only[Lo,ho,Rx,A2,Bz,Ob.ren,Nh i _ (Gl hr),V.ren,E6,Nh i _ h1,h0,D8,Iw];have ha:OV [Ob.row xs.flatten e g 0] (.agg cs) (.agg cs):=H2 h1;have hb:OV [Ob.row xs.flatten e g 0] (.sl 0 g 0 xs.length m true) (.lst 0 xs):=Oo (Pz (i:=0) (g:=g) (e:=e) (z:=0) (w:=true) rfl hm hl hr) rfl;have hc:OV [Ob.row xs.flatten e g 0] (iV c) (iV c):=H2 rfl;exact congrArg (Option.map V.tup) (Sl (.cons ha (.cons hb (.cons hc .nil))) fun j hj=>Ml _ _ _ _ (Pe.2 hj))
def Bdz{σ:St}{m e lo:Nat}{u:V}{xs:List (List V)}{cs:List V}{c:Int}(h:GW σ m e lo u xs)(hm:0<m)(hl:∀ r∈xs,r.length=m)(hr:∀ r∈xs,r.all V.rowB=true)(h1:cs.all V.rowB=true):
  FR (.tup [.agg cs,u,iV c]) σ (.tup [.agg cs,SL true 0 xs,iV c]):=by
 rcases h with⟨rfl,rfl⟩ | ⟨hn,i,g,rfl,ho,qr⟩
 .exact Fp (by simp only[Bp,Ce,Df,h1];rfl)
 .rw[S7 hn];exact A2y ho hm hl hr h1
def My(K:List A0)(M:List Int)(J:List A0)(E:List Ent):List Ent:=(E.filter fun e=>(Iq K M J e).isNone).map Ent.own
def Fa(K:List A0)(M:List Int)(J:List A0)(E:List Ent):List Ent:=E.filterMap (Iq K M J)
def Az1(n:Int)(X L:List Ent):V:=.tup [.agg [iV n,SL true 0 (X.map Ent.row)],SL true 0 (L.map Ent.row),iV 0]
def Az2:V:=.tup [.agg [iV 0,.nils],.nils,iV 1]
def Aty{K:List A0}{M:List Int}{J:List A0}{E:List Ent}{i:Nat}{e:Ent}(h:E[i]?=some e):Fa K M J (E.take (i+1))=Fa K M J (E.take i)++(Iq K M J e).toList:=by
 unfold Fa;rw[Hk,h,Pf,List.filterMap_append]
 cases hc:Iq K M J e<;>simp[hc]
def Atz{K:List A0}{M:List Int}{J:List A0}{E:List Ent}{i:Nat}{e:Ent}(h:E[i]?=some e):My K M J (E.take (i+1))=My K M J (E.take i)++if(Iq K M J e).isNone then [e.own] else []:=by
 unfold My;rw[Hk,h,Pf,List.filter_append,Dl]
 cases hc:Iq K M J e<;>simp[hc]
def Zo{K:List A0}{M:List Int}{J:List A0}{e y:Ent}(h:Iq K M J e=some y):y.own=y/\y.sites.length=e.sites.length:=by
 unfold Iq at h
 cases hr:Ft K M e.sites with
 | none=>rw[hr]at h;cases h
 | some r=>
  rw[hr]at h;have h:=Iu h;subst h;refine⟨rfl,?_⟩;simp only;rw[Aj,Ajn,Aj,Wd hr]
def Akn(K:List A0)(M:List Int)(J:List A0)(E:List Ent):Lm (Fa K M J E):=fun y hy=>by
 obtain⟨e,-,he⟩:=Yh.1 hy;exact(Zo he).1
def Ako(K:List A0)(M:List Int)(J:List A0)(E:List Ent):(Fa K M J E).length<=E.length:=List.length_filterMap_le _ _
def Akp(K:List A0)(M:List Int)(J:List A0)(E:List Ent):(My K M J E).length<=E.length:=by
 unfold My;rw[Aj];exact List.length_filter_le _ _
set_option maxHeartbeats 4000000 in
def A5n{p q:Gp}(hp:PY p)(hq:PY q)(hM:∀ x∈Fr p q,x<((B9 q).length:Int))(z:Bool)(t:Nat)(n:Int)(E:List Ent)(hE:E.length<=20)(hs:∀ e∈E,e.sites.length<=1000/\e.sites≠[])(ho:K4 E)(hv:H3 n E=true)(hK:(B9 p).length<=1000000000000):
  Fn TT PT 7 [.agg [iV n,SL z t (E.map Ent.row)],.agg p.row,.agg q.row] (Az1 n ((Fa (B9 p) (Fr p q) (B9 q) E).foldl C8 []) (My (B9 p) (Fr p q) (B9 q) E)):=by
 have g0:=Ar8 z t n E ho;rw[hv]at g0;have g1:=Aqu hp hq;have qA:(Fr p q).length=(B9 p).length:=by rw[Add];exact Aph p q
 have g2:=fun(e:Ent) (he:e∈E)=>A9c hp.px hq.px (Fr p q) qA hM e (hs e he).1 (hs e he).2 hK
 have qO:=D7 p;have jo:=D7 q;rw[qO]at g1 g2 ⊢;rw[jo]at g1 g2 ⊢;generalize B9 p=K at *;generalize B9 q=J at *;generalize Fr p q=M at *;have jM:(E.map Ent.row).length=E.length:=Aj ..;refine Bc T7 rfl ?_;simp only[go_sem];refine Ab g0 AB ?_;simp only[go_sem];refine Ab g1 AB ?_;simp only[go_sem,jM];obtain⟨σ0,qS⟩:∃ σ0:St,σ0=[.row [iV n,SL z t (E.map Ent.row)] 35 0 0,gO p,gO q,.row [iV 0,.nils] 35 0 0]:=⟨_,rfl⟩
 refine Bh (α:=Nat × V × V × St) (fun a=>E.length - a.1) (fun a=>[(4,.ptr 1 0 0),(5,.ptr 2 0 0),(6,.ptr 3 0 0),(9,SL true 0 (Ao M)),(10,.ptr 4 0 0),(11,a.2.2.1),(27,SL z t (E.map Ent.row)),(28,iV (E.length:Int)),(29,iV (a.1:Int))]) (fun a=>a.2.2.2)
  (fun a=>a.1<=E.length/\(∀ j,j<4->a.2.2.2[j]?=σ0[j]?)/\a.2.2.2[4]?=some (.row [iV n,a.2.1] 35 0 0)/\Cl a.2.2.2/\GW a.2.2.2 4 55 5 a.2.1 ((Fa K M J (E.take a.1)).map Ent.row)/\GW a.2.2.2 4 55 5 a.2.2.1 ((My K M J (E.take a.1)).map Ent.row)/\∀ j∈a.2.1.refs,j ∉ a.2.2.1.refs) ?_ (0,.nils,.nils,_) ⟨Av _,fun j hj=>by rw[qS];match j,hj with | 0,_=>rfl | 1,_=>rfl | 2,_=>rfl | 3,_=>rfl,rfl,(by intro ob jC j hj;simp only[Bo,Of,or_false]at jC;rcases jC with rfl | rfl | rfl | rfl | rfl<;>simp[Ob.refs,Ah,V.refs,Pj (G8 _ _ _)]at hj),De,De,fun j hj=>by simp[V.refs]at hj⟩
 rintro⟨i,uE,uL,s⟩ ⟨hi,hf,h4,qF,ql,qn,qu⟩ ih;simp only at hi hf h4 qF ql qn qu ih;refine Az Bok ?_;have e1:=hf 1 AA;have e2:=hf 2 AA;have e3:=hf 3 AA;rw[qS]at e1 e2 e3;simp only[Tw,Pc]at e1 e2 e3;have qZ:=(Al.1 h4).1;have jz:=Akp K M J (E.take i);have jA:=Ako K M J (E.take i);rw[D5]at jz jA;rcases Bb i E.length with h | h
 .obtain⟨e,he,-,qq⟩:=Bl h;have i1:IntKind.i64.wrap ((i:Int)+1)=((i+1:Nat):Int):=Ay AA;have qG:(E.map Ent.row)[i]?=some (eR e e.sl):=by rw[Ai,he];rfl
  have gc:=g2 e qq;have qv:=Aty (K:=K) (M:=M) (J:=J) he;have qY:=Atz (K:=K) (M:=M) (J:=J) he;simp only[Q0]at gc;have gA:∀ (j:Nat) (o:Ob) (X:St),s[j]?=some o->(s++X)[j]?=some o:=fun j o X h=>Bs h
  cases qE:Iq K M J e with
  | none=>
   rw[qE]at gc qv qY;unfold Anl at gc;simp only at gc;simp only[go_sem,Ar h,qG,gA _ _ _ e1,gA _ _ _ e2];refine Ab gc AB ?_;simp only[go_sem];have jI:Fn TT PT 22 [e.sl] (SL true 0 (e.sites.map Aw)):=A67 e.z e.t e.sites (hs e qq).2 (by have:=(hs e qq).1;omega);refine Ab jI AB ?_;obtain⟨u2,s2,a1,g5,l5,k5,r5,c5⟩:=Mp (bytes:=48) (y:=.lst 1 [(eR e (SL true 0 (e.sites.map Aw)))]) (ys:=[(eR e (SL true 0 (e.sites.map Aw)))]) (H0 (l:=[eO e (SL true 0 (e.sites.map Aw)),Ob.row [iV 0,.nils,iV 0,iV 0] 55 0 0]) qn) AJ rfl AA (Gk _) AE (J3 [e.own]) (by rw[Aj];simp;omega);simp only[go_sem,a1,i1];have hk:∀ j,j<s.length->j ∉ uL.refs->s2[j]?=s[j]?:=fun j h1 h2=>by rw[k5 j AJ h2,C3 h1]
   have qz:∀ j,j<5->j ∉ uL.refs:=fun j hj hm=>by have:=(C1 qn j hm).1;omega
   refine Am (ih (i+1,uE,u2,s2) AH ⟨h,fun j hj=>(hk j AA (qz j AA)).trans (hf j hj),(hk 4 AA (qz 4 AA)).trans h4,c5 ?_,?_,?_,fun j hj hm=>?_⟩) rfl
   .have:=Uv (t:=55) (cs:=[iV 0,.nils,iV 0,iV 0]) (Uv (t:=55) qF (J3 [e.own] _ Cr)) rfl;rw[Dk]at this;exact this
   .simp only;rw[qv];simp only[Option.toList_none,Bw];exact Gu ql fun j hj=>hk j (Ee ql j hj) (qu j hj)
   .simp only;rw[qY];simp only[Option.isNone_none,if_pos,Dl];exact g5
   .rcases r5 j hm with h1 | h1
    .exact qu j hj h1
    .have:=Ee ql j hj;simp at h1;omega
  | some y=>
   rw[qE]at gc qv qY;unfold Anl at gc;simp only[Q0]at gc;obtain⟨u2,s2,a1,g5,l5,k5,r5,c5⟩:=Mp (bytes:=48) (y:=.lst 1 [(eR y y.sl)]) (ys:=[(eR y y.sl)]) (H0 (l:=[eO e e.sl,eO y y.sl]) ql) AJ rfl AA (Gk _) AE (J3 [y]) (by rw[Aj];simp;omega);have hk:∀ j,j<s.length->j ∉ uE.refs->s2[j]?=s[j]?:=fun j h1 h2=>by rw[k5 j AJ h2,C3 h1]
   have qz:∀ j,j<5->j ∉ uE.refs:=fun j hj hm=>by have:=(C1 ql j hm).1;omega
   have jv:=(hk 4 AA (qz 4 AA)).trans h4;have cu:=Lc (Bx g5);have cv:=Bx g5;simp only[go_sem,Ar h,qG,gA _ _ _ e1,gA _ _ _ e2];refine Ab gc AB ?_;simp only[go_sem,gA _ _ _ h4,a1,jv,cu,cv,i1];refine Am (ih (i+1,u2,uL,_) AH ⟨h,fun j hj=>?_,Bv (Al.1 jv).1,Fi (c5 ?_) ?_,?_,?_,fun j hj hm=>?_⟩) rfl
   .simp only;rw[Bk AA];exact(hk j AA (qz j AA)).trans (hf j hj)
   .have:=Uv (t:=55) (Uv (t:=55) qF (J3 [e] _ Cr)) (J3 [y] _ Cr);rw[Dk]at this;exact this
   .intro j hj;exact Ee g5 j (by simpa[Ob.refs,Ah,V.refs] using hj)
   .simp only;rw[qv];simp only[Pf,Dl];exact Dv g5 AA
   .simp only;rw[qY];simp only[Option.isNone_some,Hj,if_false,Bw];exact Dv (Gu qn fun j hj=>hk j (Ee qn j hj) fun h1=>qu j h1 hj) AA
   .rcases r5 j hj with h1 | h1
    .exact qu j h1 hm
    .have:=Ee qn j hm;simp at h1;omega
 have qI:i=E.length:=by omega
 subst qI;rw[Dg]at ql qn jz jA;have jQ:=Akn K M J E
 have jx:∀ y∈Fa K M J E,y.sites.length<=1000:=fun y hy=>by
  obtain⟨e,qq,he⟩:=Yh.1 hy;rw[(Zo he).2];exact(hs e qq).1
 generalize Fa K M J E=X at *;generalize My K M J E=Y at *
 obtain⟨s1,s2,c1,c2,hk⟩:∃ s1 s2,CallS TT PT 23 [uE,.fn 24 [] []] s (.tup []) s1/\CallS TT PT 26 [uE] s1 (SL true 0 ((X.foldl C8 []).map Ent.row)) s2/\∀ j,j ∉ uE.refs->s1[j]?=s[j]?/\s2[j]?=s[j]?:=by
  have jH:∀ (s1:St) (D:List Ent),D.Perm X->N6 Js Ent.ks D->GW s1 4 55 5 uE (D.map Ent.row)->∃ s2,CallS TT PT 26 [uE] s1 (SL true 0 ((X.foldl C8 []).map Ent.row)) s2/\∀ j,j ∉ uE.refs->s2[j]?=s1[j]?:=fun s1 D hp hl hg=>by
   have gm:=A5m true 0 D (by rw[hp.length_eq];omega) fun e he=>jx e (hp.mem_iff.1 he)
   rw[A9a jQ hp hl]at gm;obtain⟨s2,ha,-,jg⟩:=Aiz hg (J3 _) (args:=[uE]) (v:=SL true 0 ((X.foldl C8 []).map Ent.row)) (by simp[Ah]);refine⟨s2,?_,jg⟩;rw[<-ha];exact .pure (Ad9 (.cons (Oo (I1 hg AA (Gk _) (J3 _)) (Bx hg)) .nil)) gm
  rcases ql with⟨rfl,qC⟩ | ⟨qC,o,g,rfl,qw,qr⟩
  .have qC:X=[]:=by simpa using qC
   subst qC;obtain⟨s1,h1,rfl⟩:=A5l qF;obtain⟨s2,h2,h3⟩:=jH s1 [] (.refl _) .nil De;exact⟨s1,s2,.thr h1,h2,fun j hj=>⟨rfl,h3 j hj⟩⟩
  .rw[Aj]at *;obtain⟨s1,h1,D,hp,hl,rfl⟩:=A9d qF (w:=true) X AA qw jx
   obtain⟨s2,h2,h3⟩:=jH _ D hp hl (.inr ⟨fun e=>qC (by
    have:=hp.length_eq;rw[List.map_eq_nil_iff.1 e]at this;rw[M6.1 this.symm]
    rfl),o,g,by rw[Aj,hp.length_eq],Bv (Al.1 qw).1,qr⟩)
   refine⟨_,s2,.thr h1,h2,fun j hj=>?_⟩;have h4:(s.set o (.row (Li D) 55 g 0))[j]?=s[j]?:=Bk (fun e=>hj (by simp[V.refs,e]));exact⟨h4,(h3 j hj).trans h4⟩
 have jc:∀ j,j<5->j ∉ uE.refs:=fun j hj hm=>by have:=(C1 ql j hm).1;omega
 have q4:=(hk 4 (jc 4 AA)).1.trans h4;have r4:=(hk 4 (jc 4 AA)).2.trans h4;have r3:=(hk 3 (jc 3 AA)).2.trans e3;simp only[go_sem,Bi h,h4];refine Jf c1 ?_;simp only[go_sem,q4];refine Jf c2 ?_;have w4:=fun X:Ob=>Bv (a:=X) (Al.1 r4).1
 have w3:∀ X:Ob,(s2.set 4 X)[3]?=some (.row [iV 0,.nils] 35 0 0):=fun X=>(Bk AA).trans r3
 have kg:=fun X Z:Ob=>Bv (l:=s2.set 4 X) (i:=3) (a:=Z) (by simpa using (Al.1 r3).1)
 simp only[go_sem,r4,w4,w3,kg];refine Bdz (Dv (Dv (Gu qn fun j hj=>(hk j fun h1=>qu j h1 hj).2) AA) AA) AA (Gk _) (J3 _) ?_;simp only[Bp,Ce,G8];rfl
def Bd0{σ:St}{m e lo:Nat}{u:V}{xs:List (List V)}(h:GW σ m e lo u xs)(hm:0<m)(hl:∀ r∈xs,r.length=m)(hr:∀ r∈xs,r.all V.rowB=true)(b:Bool):
  FR (.tup [u,.bool b]) σ (.tup [SL true 0 xs,.bool b]):=by
 rcases h with⟨rfl,rfl⟩ | ⟨hn,i,g,rfl,ho,qr⟩
 .exact Fp rfl
 rw[S7 hn];obtain⟨hi,qw⟩:=Al.1 ho;have hx:Ah xs.flatten=[]:=Ff (Gl hr);have h0:ren 0 [i] i=0:=by simp[ren,Yk]
 refine .inr ⟨[i],?_,?_⟩
 .simp only[Hm,Cb,Gc,V.refs,Ah,Bp,Ce,V.cellB,Bw,Ci];simp[Ef,qw,Ob.refs,hx,hi]
 .simp only[Lo,ho,Rx,A2,Bz,Ob.ren,Nh i _ (Gl hr),V.ren,E6,h0,D8,Iw];have hb:OV [Ob.row xs.flatten e g 0] (.sl 0 g 0 xs.length m true) (.lst 0 xs):=Oo (Pz (i:=0) (g:=g) (e:=e) (z:=0) (w:=true) rfl hm hl hr) rfl;have hc:OV [Ob.row xs.flatten e g 0] (.bool b) (.bool b):=H2 rfl;exact congrArg (Option.map V.tup) (Sl (.cons hb (.cons hc .nil)) fun j hj=>Ml _ _ _ _ (Pe.2 hj))
def Anm:Option (List Nat)->V
 | some r=>.tup [SL true 0 (Ao (r.map fun n:Nat=>(n:Int))),.bool true]
 | none=>.tup [.nils,.bool false]
set_option maxHeartbeats 4000000 in
def A9e{p:Gp}(hp:PX p)(M:List Int)(qA:M.length=(B9 p).length)(e:Ent)(hs:e.sites.length<=1000)(hK:(B9 p).length<=1000000000000):
  Fn TT PT 29 [.agg e.row,.agg p.row,SL true 0 (Ao M)] (Anm (Ft (B9 p) M e.sites)):=by
 have gs:=fun k=>A46 hp k hK
 have qO:=D7 p;rw[qO]at gs ⊢;generalize B9 p=K at *;have qB:=F2 M;have jf:(e.sites.map Aw).length=e.sites.length:=Aj ..
 have qc:∀ (j:Nat) (k:A0),e.sites[j]?=some k->Mb 3 e.sl (iV (j:Int))=some (.imm (kR k) 0):=fun j k hk=>by
  have jq:(e.sites.map Aw)[j]?=some (kR k):=by rw[Ai,hk];rfl
  unfold Ent.sl;rw[Aez,Ajz,jq];rfl
 have qp:Mc e.sl=some (iV (e.sites.length:Int)):=by unfold Ent.sl;rw[Aah,jf]
 refine Bc T29 rfl ?_;unfold Ent.row;simp only[go_sem,qp]
 refine Bh (α:=Nat × V × St × List Nat) (fun a=>e.sites.length - a.1) (fun a=>[(2,SL true 0 (Ao M)),(4,.ptr 1 0 0),(8,a.2.1),(13,e.sl),(14,iV (e.sites.length:Int)),(15,iV (a.1:Int))]) (fun a=>a.2.2.1)
  (fun a=>a.1<=e.sites.length/\Ft K M (e.sites.take a.1)=some a.2.2.2/\a.2.2.1[1]?=some (gO p)/\GW a.2.2.1 1 3 2 a.2.1 (Ao (a.2.2.2.map fun n:Nat=>(n:Int)))) ?_ (0,.nils,_,[]) ⟨Av _,rfl,rfl,De⟩
 rintro⟨i,u,s,r⟩ ⟨hi,hc,e1,hg⟩ ih;simp only at hi hc e1 hg ih;refine Az Blh ?_;rcases Bb i e.sites.length with h | h;rotate_left
 .have qI:i=e.sites.length:=by omega
  subst qI;rw[Dg]at hc;rw[hc];simp only[go_sem,Bi h];exact Bd0 hg AA (Ie _) (Pq _) true
 obtain⟨k,hk,-,jk⟩:=Bl h;have i1:IntKind.i64.wrap ((i:Int)+1)=((i+1:Nat):Int):=Ay AA;have qt:e.sites.take (i+1)=e.sites.take i++[k]:=by rw[Hk,hk];rfl
 have hA:∀ X,(s++[X])[1]?=some (gO p):=fun X=>Bs e1
 have qd:=gs k;unfold sI at qd;have qb:Gd K M k=none->Ft K M e.sites=none:=fun h1=>Acr.2 ⟨k,jk,h1⟩
 have next:Ft K M (e.sites.take (i+1))=(Gd K M k).map fun n=>r++[n]:=by rw[qt,Ah1,hc,Cy]
 have qZ:=(Al.1 e1).1
 cases hsn:L7 K k with
 | none=>
  have qf:Gd K M k=none:=by unfold Gd;rw[hsn]
  rw[hsn]at qd;rw[qb qf];simp only[go_sem,Ar h,qc i k hk,hA];refine Ab qd AB ?_;simp only[go_sem];exact Fp AK
 | some s'=>
  rw[hsn]at qd;have qs:s'<M.length:=by rw[qA];exact(Al.1 (Wc.1 hsn).1).1
  obtain⟨m,hm,-,qv⟩:=Bl qs;have qL:(Ao M)[s']?=some [iV m]:=by unfold Ao;rw[Ai,hm];rfl
  have qH:M.getD s' (-1)=m:=by rw[E0,hm];rfl
  have f3:((s':Int)<0)=False:=eq_false AA;by_cases qa:m<0
  .have f5:(m<0)=True:=eq_true qa;have qf:Gd K M k=none:=by unfold Gd;rw[hsn];simp only[qH];rw[if_pos qa]
   rw[qb qf];simp only[go_sem,Ar h,qc i k hk,hA];refine Ab qd AB ?_;simp only[go_sem,f3,qB,Ar qs,qL,f5];exact Fp AK
  .have f5:(m<0)=False:=eq_false qa;have qf:Gd K M k=some m.toNat:=by unfold Gd;rw[hsn];simp only[qH];rw[if_neg qa]
   rw[qf]at next
   have qi:=Wd hc;rw[D5]at qi;obtain⟨v2,s3,jb,g3,l3,-,k3⟩:=G9 (bytes:=8) (y:=.lst 1 [[iV m]]) (ys:=[[iV m]]) (H0 (l:=[Ob.row (kR k) 57 0 0]) hg) AJ rfl AA (Ie _) AE (by rw[F2];simp;omega);simp only[go_sem,Ar h,qc i k hk,hA];refine Ab qd AB ?_;simp only[go_sem,f3,qB,Ar qs,qL,f5,jb,i1];refine Am (ih (i+1,v2,s3,r++[m.toNat]) AH ⟨h,next,(k3 1 AA).trans (hA _),?_⟩) rfl;simp only;rw[Dl,Adc,A2,Bz,Ab5 AA];exact g3
