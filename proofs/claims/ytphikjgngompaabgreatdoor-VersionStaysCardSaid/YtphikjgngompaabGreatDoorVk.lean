/- Walks: the stored baseline, walked. -/
import Derived.Test.YtphikjgngompaabGreatDoorVp
set_option linter.all false
namespace Go.Proofs.YtphikjgngompaabGreatDoor.KM
open Go
def A7r{K:List Ak}{S:List Ak}{sB:St}{ib gb q:Nat}{kd sn ms:Int}{A B:V}{I:Nat}{k0:List It}{Q:Env->St->Prop}(qL:K.length<=1000000000000)(hS:∀ k∈S,Yi k)(jQ:S.length<=1000)(qV:0<=sn/\sn<=1000)
  (jp:ib<sB.length) (hq:sB[q]?=some (.row [iV kd,.sl ib gb 0 S.length 3 true,iV sn,iV ms] 43 0 0)) (jG:q≠ib)
  (qn:W TT PT k0 [(6,.ptr 1 0 0),(7,SL true 0 (K.map A0)),(8,.ptr 2 0 0),(10,.ptr q 0 0),(19,A),(20,B),(21,iV (I:Int)),(27,iV (S.length:Int)),(28,iV (S.length:Int))] (sB.set ib (.row ((Fq K sn S S.length).map A0).flatten 45 gb 0)) Q) :
  ∀ j,j<=S.length->W TT PT (.l [6,7,8,10,19,20,21,27,28] lp6_0::.b 2::k0) [(6,.ptr 1 0 0),(7,SL true 0 (K.map A0)),(8,.ptr 2 0 0),(10,.ptr q 0 0),(19,A),(20,B),(21,iV (I:Int)),(27,iV (S.length:Int)),(28,iV (j:Int))] (sB.set ib (.row ((Fq K sn S j).map A0).flatten 45 gb 0)) Q:=by
 refine Bk (α:=Nat) (fun j=>S.length - j) _ _ _ ?_;intro j hj jh;have qh:(K.map A0).length=K.length:=Ar ..;refine Bd Bru ?_;rcases Bh j S.length with h2 | h2;rotate_left
 .have jq:j=S.length:=by omega
  subst jq;simp only[go_sem,Bl h2];exact qn
 obtain⟨k,hk,-,jt⟩:=Br h2;have ju:=hS k jt;unfold Yi at ju;have j1:IntKind.i64.wrap ((j:Int)+1)=((j+1:Nat):Int):=A2 AA;have jA:=Bbp K sn S j;have jz:=Avj (K:=K) (seen:=sn) hk;have qu:((Fq K sn S j).map A0)[j]?=some (kR k):=by rw[Au,jz];rfl
 have c0:=X1 (j:=0) (c:=.str k.1) (H0 _) qu rfl;have c1:=X1 (j:=1) (c:=.str k.2.1) (H0 _) qu rfl;have c2:=X1 (j:=2) (c:=iV k.2.2) (H0 _) qu rfl;rw[Nt]at c0;have l0:=Ab7 (e:=45) (g:=gb) (z:=0) c0;have l1:=Ab7 (e:=45) (g:=gb) (z:=0) c1;have l2:=Ab7 (e:=45) (g:=gb) (z:=0) c2;have gi:(sB.set ib (.row ((Fq K sn S j).map A0).flatten 45 gb 0))[ib]?=some (.row ((Fq K sn S j).map A0).flatten 45 gb 0):=Cr jp;have gq:(sB.set ib (.row ((Fq K sn S j).map A0).flatten 45 gb 0))[q]?=some (.row [iV kd,.sl ib gb 0 S.length 3 true,iV sn,iV ms] 43 0 0):=by rw[Ce (Ne.symm jG)];exact hq
 have w1:IntKind.i64.wrap (3*(k.2.1.length:Int))=3*(k.2.1.length:Int):=Cm AA;have w2:IntKind.i64.wrap (k.2.2+3*(k.2.1.length:Int))=k.2.2+3*(k.2.1.length:Int):=Cm AA;have w3:IntKind.i64.wrap (5*(k.1.length:Int))=5*(k.1.length:Int):=Cm AA;have w4:IntKind.i64.wrap (k.2.2+3*(k.2.1.length:Int)+5*(k.1.length:Int))=Ol k:=by rw[Cm AA];rfl
 have jW:0<=Ol k/\Ol k<=20000:=by unfold Ol;omega
 generalize qi:sB.set ib (.row ((Fq K sn S j).map A0).flatten 45 gb 0)=st at *;simp only[go_sem,Az h2];refine Af AD ?_;simp only[go_sem,gq,gi,Nb h2,l0,l1,l2,w1,w2,w3,w4];by_cases jg:K.length=0
 .have f1:((0:Int)<(K.length:Int))=False:=eq_false AA;have hp:Qu K sn j k=k:=by unfold Qu;rw[if_pos (.inl jg)]
  have qa:=jh (j+1) AA h2;rw[Asg hk hp,qi]at qa;simp only[go_sem,qh,f1,j1];exact Av qa rfl
 have f1:((0:Int)<(K.length:Int))=True:=eq_true AA;by_cases h7:(Ol k).tmod 7=0
 .have f2:((0:Int) != 0)=false:=rfl;have hp:Qu K sn j k=k:=by unfold Qu;rw[if_pos (.inr h7)]
  have qa:=jh (j+1) AA h2;rw[Asg hk hp,qi]at qa;simp only[go_sem,qh,f1,h7,f2,j1];exact Av qa rfl
 have f2:((Ol k).tmod 7 != 0)=true:=by simpa using h7
 obtain⟨a,ha⟩:∃ a:Nat,Ol k=(a:Int):=⟨(Ol k).toNat,by omega⟩;obtain⟨b,hb⟩:∃ b:Nat,sn=(b:Int):=⟨sn.toNat,by omega⟩
 have jR:b*j<=1000000:=by
  have h1:b<=1000:=by omega
  have h3:j<=1000:=by omega
  calc b*j<=1000*1000:=Nat.mul_le_mul h1 h3
   _=1000000:=rfl
 have w5:IntKind.i64.wrap (sn*(j:Int))=((b*j:Nat):Int):=by
  rw[hb,show(b:Int)*(j:Int)=((b*j:Nat):Int) by simp,Cm AA]
 have w6:IntKind.i64.wrap (Ol k+((b*j:Nat):Int))=((a+b*j:Nat):Int):=by rw[ha,Cm AA];simp
 have r1:(((a+b*j:Nat):Int)).tmod (K.length:Int)=(((a+b*j) % K.length:Nat):Int):=Ab2 _ _;have hc:(a+b*j) % K.length<K.length:=O0 _ AA;obtain⟨y,hy,-,-⟩:=Br hc;have jM:(K.map A0)[(a+b*j) % K.length]?=some (kR y):=by rw[Au,hy];rfl
 have hp:Qu K sn j k=y:=by
  unfold Qu
  rw[if_neg (by
   omega),ha,hb,show((a:Int)+(b:Int)*(j:Int))=((a+b*j:Nat):Int) by simp,r1,Nr,Ef,hy]
  rfl
 have qa:=jh (j+1) AA h2;rw[Avk hk,hp,List.map_set]at qa;have qy:=Aa7 (r:=[V.str y.1,V.str y.2.1,iV y.2.2]) (H0 (Fq K sn S j)) (i:=j) (by grind) rfl;have jo:=Gg (H0 (Fq K sn S j));rw[Ar,jA]at jo;have qS:(j*3+3<=((Fq K sn S j).map A0).flatten.length)=True:=eq_true AA;rw[show(A0 y)=[V.str y.1,V.str y.2.1,iV y.2.2] from rfl,<-qy]at qa;have qC:sB.set ib (.row (((Fq K sn S j).map A0).flatten.take (j*3)++[V.str y.1,V.str y.2.1,iV y.2.2]++((Fq K sn S j).map A0).flatten.drop (j*3+3)) 45 gb 0)=st.set ib (.row (((Fq K sn S j).map A0).flatten.take (j*3)++[V.str y.1,V.str y.2.1,iV y.2.2]++((Fq K sn S j).map A0).flatten.drop (j*3+3)) 45 gb 0):=by rw[<-qi,Ai0]
 rw[qC]at qa;simp only[Bt,Bq,Ba]at qa;have js:(K.length:Int)≠0:=by omega
 simp only[go_sem,qh,f1,f2];refine Af AD ?_;simp only[go_sem,gq,gi,Nb h2,w5,w6,qh,r1,jM,js,qS];refine Ri (by repeat (first | exact trivial | refine⟨.inl AK,?_⟩ | refine⟨by rfl,?_⟩ | refine⟨.inr ⟨by rfl,by rfl⟩,?_⟩)) (by repeat (first | exact trivial | refine⟨.inl AK,?_⟩ | refine⟨by rfl,?_⟩ | refine⟨.inr ⟨by rfl,by rfl⟩,?_⟩)) ?_;simp only[go_sem,j1];exact Av qa rfl
def Sd(K:List Ak)(l:List Item):List Ent:=Lz K (F3 l 20) (F3 l 20).length
def Bg4(x:Item):0<=x.ent.seen/\x.ent.seen<=1000:=by
 grind[Item.ent]
def A7s{p:Gp}(hp:PX p)(z:Bool)(t:Nat)(l:List Item)(n:Nat)(hn:n<256)(hl:l.length<=9223372036854775807)(qx:∀ x∈l,x.ok)(qL:(C7 p).length<=1000000000000):
  Fn TT PT 6 [.agg p.row,SL z t (l.map Item.row),.int .u8 n] (.agg [iV (n:Int),SL true 0 ((Sd (C7 p) l).map Ent.row)]):=by
 have g2:=Aut hp;rw[Aaz]at g2;have qy:=F1 p;rw[qy]at g2 ⊢;obtain⟨b1,b2,b3⟩:=Aae l 20;obtain⟨u0,σ0,jn,L0,hg,hL,jS,jl⟩:=A2w z t l hl qx;have w1:IntKind.i64.wrap (n:Int)=n:=Cm AA;unfold Sd
 have qD:∀ e∈F3 l 20,(∀ k∈e.sites,Yi k)/\e.sites.length<=1000/\(0<=e.seen/\e.seen<=1000):=fun e he=>by
  obtain⟨y,-,rfl⟩:=b3 e he;refine⟨A4t y,?_,Bg4 y⟩
  grind[Xe,X7]
 clear b3;generalize hE:F3 l 20=E at *;generalize C7 p=K at *;have qh:(K.map A0).length=K.length:=Ar ..;obtain⟨σ1,qY⟩:∃ σ1:St,σ1=[gO p,.row [iV 0,.nils] 35 0 0,.row [iV (n:Int),.nils] 35 0 0]:=⟨_,rfl⟩;have qk:=CallS.own (σ:=σ1) (Xj (vs:=[SL z t (l.map Item.row)]) AB) jn;rw[Bf1 (U9 AB)]at qk;have qg:=Bbn σ1 hg;have jk:=Bbo σ1.length hg jl;have qM:(L0.map fun p=>(p.1.ren (·+σ1.length),p.2)).map (·.2)=E:=by rw[Q9];exact hL
 have jJ:σ1.length=3:=by rw[qY];rfl
 have hJ:∀ j,j<3->(σ1++σ0.map (Ob.ren (·+σ1.length)))[j]?=σ1[j]?:=fun j hj=>Es AA
 have e1:=(hJ 1 AA).trans (show σ1[1]?=some (.row [iV 0,.nils] 35 0 0) by grind);have e2:=(hJ 2 AA).trans (show σ1[2]?=some (.row [iV (n:Int),.nils] 35 0 0) by grind);generalize u0.ren (·+σ1.length)=u at qk qg;generalize qi:σ1++σ0.map (Ob.ren (·+σ1.length))=st at *;generalize(L0.map fun p=>(p.1.ren (·+σ1.length),p.2))=L at *;rw[jJ]at qg;have jZ:=Cg qg.1;have qX:=Azo qg.1;rw[Ar]at qX;have ji:L.length=E.length:=by rw[<-qM,Ar]
 rw[qY]at qk;refine Bg T6 rfl ?_;simp only[go_sem];refine Ab g2 AB ?_;simp only[go_sem,w1];refine Jg qk ?_;simp only[go_sem,qX]
 refine Bk (α:=Nat × St) (fun a=>L.length - a.1) (fun a=>[(6,.ptr 1 0 0),(7,SL true 0 (K.map A0)),(8,.ptr 2 0 0),(19,u),(20,iV (L.length:Int)),(21,iV (a.1:Int))]) (fun a=>a.2)
  (fun a=>a.1<=L.length/\a.2[1]?=some (.row [iV 0,.nils] 35 0 0)/\a.2[2]?=some (.row [iV (n:Int),SL true 0 ((Lz K E a.1).map Ent.row)] 35 0 0)/\GW a.2 4 43 3 u (L.map Fy)/\∀ q∈L.drop a.1,q.2.sites≠[]/\GW a.2 3 45 3 q.1 (q.2.sites.map A0)) ?_ (0,st) ⟨Ax _,e1,e2,qg.1,fun q hq=>qg.2 q (by grind)⟩
 clear e1 e2 qi hJ;rintro⟨i,s⟩ ⟨hi,h1,h2,qP,qp⟩ ih;simp only at hi h1 h2 qP qp ih;obtain⟨v1,v2,v3⟩:=Aew K E i;refine Bd Brv ?_;rcases Bh i L.length with h' | h';rotate_left
 .have qq:i=L.length:=by omega
  subst qq;have g1:=fun X:Ob=>Cr (a:=X) (Ao.1 h1).1
  simp only[go_sem,Bl h',h2,h1,g1];rw[ji];exact Fw AB
 obtain⟨q,hq,qU,jY⟩:=Br h';have jf:E[i]?=some q.2:=by rw[<-qM,Au,hq];rfl
 obtain⟨jK,jL,qV⟩:=qD q.2 (F7 jf);obtain⟨jH,jF⟩:=qp q (by grind);have i1:IntKind.i64.wrap ((i:Int)+1)=((i+1:Nat):Int):=A2 AA;rcases qP with⟨-,jP⟩ | ⟨jB,iu,g,qW,ho,jw⟩
 .rw[show L=[] by simp_all]at h';simp at h'
 rw[Ar]at qW;rcases jF with⟨-,jX⟩ | ⟨-,ib,gb,qT,qw,qr⟩
 .exact absurd (by simp_all) jH
 rw[Ar]at qT;have qs:=(Ao.1 qw).1
 have jU:iu≠ib:=by
  rintro rfl;have h:=ho.symm.trans qw;simp only[Adc,Ob.row.injEq]at h;exact absurd h.2.1 AG
 have jD:(L.map Fy)[i]?=some [iV q.2.kind,.sl ib gb 0 q.2.sites.length 3 true,iV q.2.seen,iV q.2.missed]:=by
  rw[Au,hq,<-qT];rfl
 have jv:=Afv (e:=43) (g:=g) (z:=0) (Rd L) jD;obtain⟨sB,qA⟩:∃ sB:St,sB=s++[.row [iV q.2.kind,.sl ib gb 0 q.2.sites.length 3 true,iV q.2.seen,iV q.2.missed] 43 0 0]:=⟨_,rfl⟩;have jO:sB.length=s.length+1:=by rw[qA];simp
 have jc:∀ j,j<s.length->sB[j]?=s[j]?:=fun j hj=>by grind
 have qI:sB[s.length]?=some (.row [iV q.2.kind,.sl ib gb 0 q.2.sites.length 3 true,iV q.2.seen,iV q.2.missed] 43 0 0):=by rw[qA];exact Rf _ _
 have ja:=(Ao.1 h2).1
 have jx:sB=sB.set ib (.row ((Fq K q.2.seen q.2.sites 0).map A0).flatten 45 gb 0):=by
  have h3:Fq K q.2.seen q.2.sites 0=q.2.sites:=by unfold Fq;simp[Jy]
  rw[h3];exact(Nw ((jc ib qs).trans qw)).symm
 have jy:Fq K q.2.seen q.2.sites q.2.sites.length=(q.2.sto K).sites:=by
  unfold Fq Ent.sto;simp
 subst qW;simp only[go_sem,Az h',Nb h',ho,jv];rw[<-qA,jx];refine Av (A7r qL jK jL qV AA qI AA ?_ 0 (Ax _)) rfl;rw[jy];have ka:(q.2.sto K).sites.length=q.2.sites.length:=Sx _ _ _ _;obtain⟨sE,qB⟩:∃ sE:St,sE=sB.set ib (.row (((q.2.sto K).sites.map A0).flatten) 45 gb 0):=⟨_,rfl⟩;have qJ:sE.length=sB.length:=by rw[qB];simp
 have je:∀ j,j<s.length->j≠ib->sE[j]?=s[j]?:=fun j hj jC=>by grind
 have gq:sE[s.length]?=some (.row [iV q.2.kind,.sl ib gb 0 q.2.sites.length 3 true,iV q.2.seen,iV q.2.missed] 43 0 0):=by rw[qB,Ce AA];exact qI
 have g2:=(je 2 ja AA).trans h2
 have qQ:GW sE 3 45 3 (.sl ib gb 0 q.2.sites.length 3 true) ((q.2.sto K).sites.map A0):=by
  refine .inr ⟨fun e=>?_,ib,gb,by grind,?_,qr⟩
  .have h3:=congrArg List.length e
   grind
  .grind
 obtain⟨s',ha,jV,qO⟩:=Aj7 qQ (Nu _) (args:=[SL true 0 ((Lz K E i).map Ent.row),.agg [iV q.2.kind,.sl ib gb 0 q.2.sites.length 3 true,iV q.2.seen,iV q.2.missed]]) (v:=SL true 0 ((K7 (q.2.sto K) (Lz K E i)).map Ent.row)) (by simp[Ag,V.refs,Rb,Hn])
 have qt:Fn TT PT 19 [SL true 0 ((Lz K E i).map Ent.row),.agg [iV q.2.kind,SL true 0 ((q.2.sto K).sites.map A0),iV q.2.seen,iV q.2.missed]] (SL true 0 ((K7 (q.2.sto K) (Lz K E i)).map Ent.row)):=
  A58 (Lz K E i) (q.2.sto K) AA (fun e he=>by
   obtain⟨y,hy,rfl⟩:=v3 e he;have h3:(y.sto K).sites.length=y.sites.length:=Sx _ _ _ _
   grind) AA
 rw[<-qB];have qe:=(qO 2 (by grind[V.refs])).trans g2;simp only[go_sem,g2,gq];refine A0d (.cons (I0 (Abc ..)) (.cons (Tf (.cons (Fk rfl) (.cons (Mj qQ AA (H0 _) (Nu _)) (.cons (Fk rfl) (.cons (Fk rfl) .nil))))) .nil)) qt ha ?_
 have qR:∀ j,j<s.length->j≠ib->j≠2->∀ X:Ob,(s'.set 2 X)[j]?=s[j]?:=fun j hj h3 h4 X=>by
  rw[Ce (Ne.symm h4),qO j (by simpa[V.refs] using h3)]
  grind
 simp only[go_sem,qe,i1];refine Av (ih (i+1,_) AA ⟨h',?_,?_,?_,?_⟩) rfl
 .grind
 .grind[Ar5]
 .refine .inr ⟨jB,iu,g,by grind,?_,jw⟩
  grind
 .intro r hr;have jI:r∈L.drop i:=by rw[qU];exact Cb _ hr
  obtain⟨r1,r2⟩:=qp r jI;refine⟨r1,?_⟩;rcases r2 with r2 | ⟨r2,jb,gj,r3,r4,r5⟩
  .exact .inl r2
  .refine .inr ⟨r2,jb,gj,r3,?_,r5⟩;have h5:=jk.sublist (List.drop_sublist i L);rw[qU]at h5;have qd:=(M0.1 h5).1 r hr;have qd:=qd ib (by grind[V.refs]);have jC:jb≠ib:=fun e=>qd (by grind[V.refs])
   grind
def Bl6{p:Gp}(hp:PY p):(C7 p).length<=1000000000000:=by
 have h1:(Em (Gu p)).length=(Hr p).length:=Xg p.thrs;have:=Ak3 hp.px
 grind[Aed]
def A40(K:List Ak)(l:List Item):(Sd K l).length<=20/\∀ e∈Sd K l,2<=e.sites.length/\e.sites.length<=4:=by
 obtain⟨b1,b2,b3⟩:=Aae l 20;obtain⟨v1,v2,v3⟩:=Aew K (F3 l 20) (F3 l 20).length;refine⟨by grind[Sd],fun e he=>?_⟩;obtain⟨y,hy,rfl⟩:=v3 e he;obtain⟨x,-,rfl⟩:=b3 y hy;have h3:(x.ent.sto K).sites.length=x.ent.sites.length:=Sx _ _ _ _
 grind[Xe,X7]
def Zv{nm:List UInt8}:∀ {X P:List (List UInt8)} {k:Ak},k∈Tj nm P X->k.1=nm/\k.2.1∈X/\(P.count k.2.1:Int)<=k.2.2/\k.2.2<((P.length+X.length:Nat):Int)
 | x::X,P,k,h=>by
  rw[Tj]at h;rcases Bp.1 h with rfl | h
  .have:=List.count_le_length (a:=x) (l:=P);refine⟨rfl,B4,Ads _,?_⟩;show((P.count x:Nat):Int)<_;simp only[An];omega
  .obtain⟨h1,h2,h3,h4⟩:=Zv h;rw[Aij]at h3;simp only[Aq,An,Dc]at h4 ⊢;exact⟨h1,Cb _ h2,by omega,by omega⟩
def Asj(nm:List UInt8):∀ X P:List (List UInt8),(Tj nm P X).Nodup
 | [],_=>W1
 | x::X,P=>by
  rw[Tj,Zh];refine⟨fun h=>?_,Asj nm X _⟩;have h3:=(Zv h).2.2.1;simp at h3;omega
structure KG (p:Gp):Prop where
 nm:∀ t∈p.thrs,Bm t.nm=true
 ln:∀ t∈p.thrs,∀ x∈Sp.hdss t.body,Of x=true
 ct:∀ t∈p.thrs,(Sp.hdss t.body).length<=60
 nd:(p.thrs.map fun t=>t.nm).Nodup
def Azz{p:Gp}(h:KG p):∀ k∈C7 p,E8 k=true:=fun k hk=>by
 unfold C7 at hk;obtain⟨l,hl,hk⟩:=Aio.1 hk;obtain⟨t,ht,rfl⟩:=Cs.1 hl;obtain⟨h1,h2,h3,h4⟩:=Zv hk;have h5:=h.ct t ht;simp only[Dc,Gf]at h4;unfold E8;rw[h1,h.nm t ht,h.ln t ht _ h2,decide_eq_true (show 0<=k.2.2 by omega),decide_eq_true (show k.2.2<60 by omega)];rfl
def Bbx{p:Gp}(h:KG p):(C7 p).Nodup:=by
 have:=h.nd;unfold C7;revert this;generalize p.thrs=L
 induction L with
 | nil=>simp
 | cons t L ih=>
  intro hd;rw[Aw,Zh]at hd;rw[Aw,Fd,Aii];refine⟨Asj _ _ _,ih hd.2,fun a ha b hb e=>hd.1 ?_⟩;subst e;obtain⟨l,hl,hb⟩:=Aio.1 hb;obtain⟨u,hu,rfl⟩:=Cs.1 hl;rw[<-(Zv ha).1,(Zv hb).1];exact Cs.2 ⟨u,hu,rfl⟩
def Bl7{K:List Ak}(hK:∀ k∈K,E8 k=true){e:Ent}(h:Hx e):Hx (e.sto K):=by
 unfold Hx Gj at h ⊢;simp only[Ai]at h ⊢;obtain⟨⟨h1,h2⟩,h3⟩:=h;refine⟨⟨?_,Bu.2 fun k hk=>?_⟩,h3⟩
 .show Og e.kind (Jy K e.seen 0 e.sites).length=true;rw[Sx];exact h1
 .rcases Ar4 hk with h4 | h4
  .exact hK k h4
  .exact Bu.1 h2 k h4
def A7t{K:List Ak}(hK:∀ k∈K,E8 k=true)(l:List Item)(n:Int)(h0:0<=n)(h1:n<=1073741824):Md n (Sd K l)=true:=by
 obtain⟨b1,b2,b3⟩:=Aae l 20;obtain⟨v1,v2,v3⟩:=Aew K (F3 l 20) (F3 l 20).length;unfold Sd;refine Au2 h0 h1 AA v2 fun x hx=>?_
 obtain⟨y,hy,rfl⟩:=v3 x hx;obtain⟨z,-,rfl⟩:=b3 y hy;exact Bl7 hK (Ba1 z)
mutual
theorem Bg5:∀ (s s':Sp),Tu s s'=true->s.hds=s'.hds
 | ⟨op,line,nm,arg,iz,it,idx,ex,bz,bt,body,ez,et,els⟩,⟨op',line',nm',arg',iz',it',idx',ex',bz',bt',body',ez',et',els'⟩,h=>by
  simp only[Tu,Ai,beq_iff_eq]at h;obtain⟨rfl,rfl,rfl,hx,hi,hb,he⟩:=h;have h1:=(Aea ex ex' hx).2.2;have h2:=Avb hi;rw[Sp.hds,Sp.hds,Aef body body' hb,Aef els els' he];simp only[Ds,Cp,h1,h2]
theorem Aef:∀ (l l':List Sp),Mb l l'=true->Sp.hdss l=Sp.hdss l'
 | [],[],_=>rfl
 | x::l,y::l',h=>by
  simp only[Mb,Ai]at h;rw[Sp.hdss,Sp.hdss,Bg5 x y h.1,Aef l l' h.2]
 | [],_::_,h=>by cases h
 | _::_,[],h=>by cases h
end
def A3m{p q:Gp}(h:V8 p q=true):Gu p=Gu q:=by
 simp only[V8,Ai,beq_iff_eq]at h;obtain⟨-,h1,h2⟩:=h;unfold Gu;revert h1 h2;generalize p.thrs=L;generalize q.thrs=L'
 induction L generalizing L' with
 | nil=>intro h1 _;cases L' with
  | nil=>rfl
  | cons _ _=>simp at h1
 | cons a L ih=>intro h1 h2;cases L' with
  | nil=>simp at h1
  | cons b L'=>
   simp only[List.zip_cons_cons,B5,Ai]at h2;have h3:=h2.1;unfold V7 at h3;simp only[Ai,beq_iff_eq]at h3;rw[Aw,Aw,h3.1,Aef _ _ h3.2.2,ih L' (by simpa using h1) h2.2]
def Bg6{P A:Gp}(hP:OKp P)(h:Jm (Ff P)=some A):KG A:=by
 obtain⟨hs,-,-⟩:=Ap3 h
 have hl:(Ff P).length<=4096:=by
  rcases Bh 4096 (Ff P).length with h1 | h1
  .unfold Jm at h;rw[if_pos h1]at h;cases h
  .exact h1
 obtain⟨g',h1,h2⟩:=Aqk Am3 Azp hP.sh hl;rw[h]at h1;obtain rfl:=M5 h1;have hL:=A3m h2
 have hA:∀ t∈A.thrs,∃ u∈P.thrs,Sp.hdss u.body=Sp.hdss t.body:=fun t ht=>by
  have h3:(t.nm,Sp.hdss t.body)∈Gu P:=by rw[hL];exact Cs.2 ⟨t,ht,rfl⟩
  obtain⟨u,hu,e⟩:=Cs.1 h3;exact⟨u,hu,(Prod.mk.inj e).2⟩
 refine⟨hs.nms,fun t ht x hx=>?_,fun t ht=>?_,Bq1 hP h⟩
 .obtain⟨u,hu,e⟩:=hA t ht;have h4:=(hP.sx u hu).2 x (by rw[e];exact hx);obtain⟨s,qz,qe⟩:=Aez hx;obtain⟨h5,h6⟩:=Blk (hs.thrs t ht s qz) x qe;exact Bf7 h5 h6 AA
 .obtain⟨u,hu,e⟩:=hA t ht;have h4:=(hP.sx u hu).1;rw[<-e,Lj];exact h4
def A7u(p q:Gp):∀ x∈Jr p q,x<((C7 q).length:Int):=fun x hx=>by
 unfold Jr Jk at hx;obtain⟨y,-,hy⟩:=List.mem_flatMap.1 hx;obtain⟨i,hi⟩:=Aib.1 hy;rw[Aed,show(Hr q).length=(Em (Gu q)).length from(Xg q.thrs).symm];rcases A5q hi with rfl | ⟨k,rfl,⟨y,-,h⟩,-⟩
 .omega
 grind
def Bl8{N:Nat}(h:N<=20):A04 N:=by
 intro s hc i g w L hL hi hs;exact Bbr hc L AA hi hs
def Bl9{x y:Ent}(hx:Hx x)(hy:Hx y):Hx (Mx x y):=by
 unfold Hx Gj at hx hy ⊢;simp only[Ai]at hx hy ⊢;refine⟨hx.1,?_⟩;have h1:=hx.2;have h2:=hy.2;unfold Qz at h1 h2 ⊢;simp only[Ai,decide_eq_true_eq]at h1 h2 ⊢;simp only[Mx,Int.max_def,Int.min_def]
 split<;>split<;>omega
def Bg7{K:List Ak}(hK:∀ k∈K,E8 k=true){e y:Ent}(h:Ht K (F5 K) K e=some y)(he:Hx e):Hx y:=by
 obtain⟨⟨r,hr,hs⟩,h1,h2,h3,-⟩:=Ax5 h;have hl:=(Ae4 h).2;unfold Hx Gj at he ⊢;simp only[Ai]at he ⊢;refine⟨⟨by rw[h1,hl];exact he.1.1,Bu.2 fun k hk=>?_⟩,?_⟩
 .rw[hs]at hk;obtain⟨s,qe,rfl⟩:=Cs.1 hk
  have h4:0<=s/\s<(K.length:Int):=Ak5 (P:=fun s=>0<=s/\s<(K.length:Int)) (fun x hx=>by
   obtain⟨n,hn,rfl⟩:=Cs.1 hx;have:=hr n hn
   omega) s qe
  rw[Ef,B9 AA,Q8];exact hK _ (M4 _)
 .unfold Qz at he ⊢;rw[h2,h3];exact he.2
def Bby{K:List Ak}(hK:∀ k∈K,E8 k=true)(hd:K.Nodup){E:List Ent}(hE:∀ e∈E,Hx e){X:List Ent}(hX:X=(J5 K (F5 K) K E).foldl Fp []):
  (∀ y∈X,Hx y)/\Hw X/\X.length+(Jc K (F5 K) K E).length<=E.length/\(J5 K (F5 K) K X).foldl Fp []=X/\Jc K (F5 K) K X=[]:=by
 have h1:∀ y∈X,(Acm K y/\y.own=y)/\Hx y:=by
  rw[hX];refine Avq (P:=fun y=>(Acm K y/\y.own=y)/\Hx y) (fun x y hx hy=>⟨⟨hx.1.1,?_⟩,Bl9 hx.2 hy.2⟩) _ _ (fun x hx=>by cases hx) fun x hx=>?_
  .have h:=hx.1.2;show Mx x.own y=Mx x y;rw[h]
  .obtain⟨e,he,h⟩:=Ac8.1 hx;obtain⟨c1,-,-,-,c2⟩:=Ax5 h;exact⟨⟨c1,c2⟩,Bg7 hK h (hE e he)⟩
 have h2:Hw X:=by rw[hX];exact Bbw _
 obtain⟨h3,h4⟩:=A4z hd fun y hy=>(h1 y hy).1
 have h5:=Ax6 K (F5 K) K E;have h6:=Avo (J5 K (F5 K) K E) [];rw[<-hX]at h6;simp only[Dc]at h6;refine⟨fun y hy=>(h1 y hy).2,h2,by omega,?_,h4⟩;rw[h3];exact Asi X [] h2
def Mo(K:List Ak)(E:List Ent):Nat:=(Jc K (F5 K) K E).length
def A7v{K:List Ak}{E:List Ent}{i:Nat}{e:Ent}(h:E[i]?=some e):Mo K (E.take (i+1))=Mo K (E.take i)+if(e.sites.any fun k=>decide (sI K k<0))=true then 1 else 0:=by
 unfold Mo;rw[Avn h,Aq,A7p]
 split<;>rfl
def Bma{K:List Ak}{S:List Ak}(h:∀ (j:Nat) (k:Ak),S[j]?=some k->¬ sI K k<0):(S.any fun k=>decide (sI K k<0))=false:=by
 rw[List.any_eq_false];intro k hk;obtain⟨j,hj⟩:=Aib.1 hk;rw[decide_eq_true_eq];exact h j k hj
def Bg8{K:List Ak}{S:List Ak}{j:Nat}{k:Ak}(h:S[j]?=some k)(hk:sI K k<0):(S.any fun k=>decide (sI K k<0))=true:=Ns.2 ⟨k,F7 h,decide_eq_true hk⟩
set_option maxHeartbeats 4000000 in
def A2y(z0 z1 z2:Bool)(t0 t1 t2:Nat)(a b c:List UInt8)(un:Bool)(z:Bool)(t:Nat)(l:List Item)(n:Nat)(ha:a.length<=9223372036854775807)(hb:b.length<=9223372036854775807)(hc:c.length<=9223372036854775807)(hn:n<256)(hl:l.length<=9223372036854775807)(qx:∀ x∈l,x.ok):
  Fn TT PT 3 [.agg [SL z0 t0 (B6 a),SL z1 t1 (B6 b),SL z2 t2 (B6 c),.bool un],SL z t (l.map Item.row),.int .u8 n] (.bool true):=by
 obtain⟨v,q1,A,B,ok,rfl,hv⟩:=A3j z0 z1 z2 t0 t1 t2 a b c un ha hb hc;have qH:=F1 A;have jd:=F1 B;rw[qH,jd]at q1;refine Bg T3 rfl ?_;simp only[go_sem];refine Ab q1 AB ?_;simp only[go_sem];cases ok
 .simp only[go_sem];refine Ab Aq0 AB ?_;simp only[go_sem];exact Ah rfl rfl
 obtain⟨pA,-,P,jN,jE⟩:=hv rfl;obtain⟨qz,qe⟩:=A40 (C7 A) l;have qm:=Bl6 pA;have qj:=Bg6 jN jE;have g1:=A7s pA.px z t l n hn hl qx qm;have qf:=A7t (Azz qj) l (n:Int) AA AA
 have hM:Jr A A=F5 (C7 A):=by
  unfold F5;rw[A3e qj.nd,Aed]
 have gR:=fun(E:List Ent) (h1:E.length<=20) (h2:∀ e∈E,Hx e) (h3:Md (n:Int) E=true)=>A7m pA pA (A7u A A) true 0 (n:Int) E AA (Bl8 h1) (fun e he=>⟨by have:=Ak0 (h2 e he);omega,Bld (h2 e he)⟩) (fun e he=>Al1 (h2 e he)) h3 qm
 simp only[hM]at gR;obtain⟨-,-,qK,-,-⟩:=A3f qf;obtain⟨X,hX⟩:∃ X,X=(J5 (C7 A) (F5 (C7 A)) (C7 A) (Sd (C7 A) l)).foldl Fp []:=⟨_,rfl⟩;obtain⟨x1,x2,x3,x4,x5⟩:=Bby (Azz qj) (Bbx qj) qK hX;have qE:=Au2 (n:=(n:Int)) AA AA AA x2 x1;have g2:=gR _ qz qK qf;have g3:=gR X AA x1 qE;have gv:=Au0 true 0 (n:Int) X fun e he=>Al1 (x1 e he)
 have gb:=Ba3 true true 0 0 (n:Int) X (fun e he=>Al1 (x1 e he)) AA;have gs:=fun k=>A6t pA.px k qm
 unfold A15 at g2 g3;rw[<-hX]at g2;rw[x4,x5]at g3;rw[qE]at gv;rw[qH]at g1 g2 g3 gs;clear qf hM gR hX x4 x5 qE qj;generalize C7 A=K at *;generalize Sd K l=E at *;have qJ:(E.map Ent.row).length=E.length:=Ar ..;have jj:(X.map Ent.row).length=X.length:=Ar ..;have qN:((Jc K (F5 K) K E).map Ent.row).length=Mo K E:=Ar ..;have x3:X.length+Mo K E<=E.length:=x3;have f0:((0:Int) != 0)=false:=rfl;have f1:((n:Int) != (n:Int))=false:=bne_self_eq_false ..;have w1:IntKind.i64.wrap ((X.length:Int)+(Mo K E:Int))=((X.length+Mo K E:Nat):Int):=by rw[Cm AA];simp
 have f2:((E.length:Int)<((X.length+Mo K E:Nat):Int))=False:=eq_false AA;simp only[go_sem];refine Ab g1 AB ?_;simp only[go_sem];refine Ab g2 AB ?_;simp only[go_sem,f0];refine Ab gv AB ?_;simp only[go_sem,f1,qJ,jj,qN,w1,f2];obtain⟨σ0,ql⟩:∃ σ0:St,σ0=[.row [SL z0 t0 (B6 a),SL z1 t1 (B6 b),SL z2 t2 (B6 c),.bool un] 24 0 0,gO A,gO B,.row [iV (n:Int),SL true 0 (E.map Ent.row)] 35 0 0,.row [iV (n:Int),SL true 0 (X.map Ent.row)] 35 0 0]:=⟨_,rfl⟩;have qF:∀ J,(σ0++J)[1]?=some (gO A):=fun J=>by rw[ql];rfl
 have qG:∀ J,(σ0++J)[4]?=some (.row [iV (n:Int),SL true 0 (X.map Ent.row)] 35 0 0):=fun J=>by rw[ql];rfl
 rw[<-ql];clear ql
 refine Bk (α:=Nat × St) (fun a=>E.length - a.1) (fun a=>[(7,.ptr 1 0 0),(11,.ptr 4 0 0),(12,SL true 0 ((Jc K (F5 K) K E).map Ent.row)),(14,iV (Mo K (E.take a.1):Int)),(70,SL true 0 (E.map Ent.row)),(71,iV (E.length:Int)),(72,iV (a.1:Int))]) (fun a=>σ0++a.2) (fun a=>a.1<=E.length) ?_ (0,[]) (Ax _) |> fun h=>Av (by rw[Cc]at h;exact h) rfl
 rintro⟨i,J⟩ hi ih;simp only at hi ih;refine Bd Brt ?_;rcases Bh i E.length with h' | h';rotate_left
 .have qq:i=E.length:=by omega
  subst qq;rw[Dq];simp only[go_sem,Bl h',qF,qG];refine Ab g3 AB ?_;simp only[go_sem,qN,beq_self_eq_true,qG];refine Ab gb AB ?_;simp only[go_sem];refine Ab Aq0 AB ?_;simp only[go_sem];exact Ah rfl rfl
 obtain⟨e,he,-,jm⟩:=Br h';have i1:IntKind.i64.wrap ((i:Int)+1)=((i+1:Nat):Int):=A2 AA;have jT:=qe e jm;have qb:=A7v (K:=K) he
 have qS:Mo K (E.take i)<=E.length:=by
  have:=Ax4 K (F5 K) K (E.take i);rw[Iq]at this;unfold Mo;omega
 have m1:IntKind.i64.wrap ((Mo K (E.take i):Int)+1)=((Mo K (E.take i)+1:Nat):Int):=A2 AA;simp only[go_sem,Az h',Au,he];refine Bk (α:=Nat × St) (fun a=>e.sites.length - a.1) (fun a=>[(7,.ptr 1 0 0),(11,.ptr 4 0 0),(12,SL true 0 ((Jc K (F5 K) K E).map Ent.row)),(14,iV (Mo K (E.take i):Int)),(70,SL true 0 (E.map Ent.row)),(71,iV (E.length:Int)),(72,iV (i:Int)),(77,e.sl),(78,iV (e.sites.length:Int)),(79,iV (a.1:Int))]) (fun a=>σ0++a.2) (fun a=>a.1<=e.sites.length/\∀ (j:Nat) (k:Ak),j<a.1->e.sites[j]?=some k->¬ sI K k<0) ?_ (0,_) ⟨Ax _,fun j k hj=>by simp at hj⟩;rintro⟨j,J2⟩ ⟨hj,qv⟩ jh;simp only at hj qv jh;refine Bd Brs ?_;rcases Bh j e.sites.length with h2 | h2;rotate_left
 .rw[Bma fun j' k hk=>qv j' k (by have:=(Ao.1 hk).1;omega) hk,if_neg AG,Nt]at qb;have qa:=ih (i+1,J2) AP h';rw[qb]at qa;simp only[go_sem,Bl h2,i1];exact Av qa rfl
 obtain⟨k,hk,-,-⟩:=Br h2;have j1:IntKind.i64.wrap ((j:Int)+1)=((j+1:Nat):Int):=A2 AA;have qZ:=gs k
 have qo:Mr 3 e.sl (iV (j:Int))=some (.imm (kR k) 0):=by
  unfold Ent.sl;rw[Af0,Alg,Au,hk];rfl
 simp only[go_sem,Az h2,qo,qF];refine Ab qZ AB ?_;by_cases qc:sI K k<0
 .rw[Bg8 hk qc,if_pos rfl]at qb;have f3:(sI K k<0)=True:=eq_true qc;have qa:=ih (i+1,J2++[.row (kR k) 45 0 0]) AP h';rw[qb]at qa;simp only[go_sem,f3,m1,i1];exact Av qa rfl
 .have f3:(sI K k<0)=False:=eq_false qc;simp only[go_sem,f3,j1]
  exact Av (jh (j+1,J2++[.row (kR k) 45 0 0]) AP ⟨h2,fun j' k' h3 h4=>by
   rcases Bh j' j with h5 | h5
   .exact qv j' k' h5 h4
   .obtain rfl:j'=j:=by simp only at h3;omega
    rw[hk]at h4;obtain rfl:=M5 h4
    exact qc⟩) rfl
