/- Walks: the reference's: a baseline carried over. -/
import Derived.Test.YtdbnbejffjhdlaaGreatDoorVp
set_option linter.all false
namespace Go.Proofs.YtdbnbejffjhdlaaGreatDoor.KM
open Go
def Bd1{J:List A0}{L:List Int}(hL:∀ x∈L,0<=x/\x<(J.length:Int))(jV:L.length<=1000)(hJ:J.length<=1000000000000){s0:St}{z:Bool}{t:Nat}{p4 p6 p9 qO qP qQ qR qS:V}
  {kd sn ms:Int} {k0:List It} {Q:Env->St->Prop}
  (qI:∀ (u:V) (s:St),(∀ i,i<s0.length->s[i]?=s0[i]?)->s[s0.length]?=some (.row [iV kd,u,iV sn,iV ms] 55 0 0)->GW s 3 57 (s0.length+1) u ((L.map fun x=>J.getD x.toNat kz).map Aw)->(Cl s0->Cl s)->W TT PT k0 [(4,p4),(6,p6),(9,p9),(10,SL true 0 (J.map Aw)),(11,qO),(12,qP),(17,.ptr s0.length 0 0),(36,qQ),(37,qR),(38,qS),(86,SL z t (Ao L)),(87,iV (L.length:Int)),(88,iV (L.length:Int))] s Q) :
  W TT PT (.l [4,6,9,10,11,12,17,36,37,38,86,87,88] lp8_0::.b 3::k0) [(4,p4),(6,p6),(9,p9),(10,SL true 0 (J.map Aw)),(11,qO),(12,qP),(17,.ptr s0.length 0 0),(36,qQ),(37,qR),(38,qS),(86,SL z t (Ao L)),(87,iV (L.length:Int)),(88,iV 0)] (s0++[.row [iV kd,.nils,iV sn,iV ms] 55 0 0]) Q:=by
 have jU:(J.map Aw).length=J.length:=Aj ..
 refine Bh (α:=Nat × V × St) (fun a=>L.length - a.1) (fun a=>[(4,p4),(6,p6),(9,p9),(10,SL true 0 (J.map Aw)),(11,qO),(12,qP),(17,.ptr s0.length 0 0),(36,qQ),(37,qR),(38,qS),(86,SL z t (Ao L)),(87,iV (L.length:Int)),(88,iV (a.1:Int))]) (fun a=>a.2.2)
  (fun a=>a.1<=L.length/\(∀ i,i<s0.length->a.2.2[i]?=s0[i]?)/\a.2.2[s0.length]?=some (.row [iV kd,a.2.1,iV sn,iV ms] 55 0 0)/\GW a.2.2 3 57 (s0.length+1) a.2.1 (((L.take a.1).map fun x=>J.getD x.toNat kz).map Aw)/\(Cl s0->Cl a.2.2)) ?_ (0,.nils,_) ⟨Av _,fun i hi=>C3 hi,Nc _ _,De,fun h=>Uv h rfl⟩
 rintro⟨j,u,s⟩ ⟨hj,hk,ho,hg,qh⟩ jh;simp only at hj hk ho hg qh jh;refine Az Bol ?_;rcases Bb j L.length with h | h;rotate_left
 .have jz:j=L.length:=by omega
  subst jz;rw[Dg]at hg;simp only[go_sem,Bi h];exact qI u s hk ho hg qh
 obtain⟨x,hx,-,jR⟩:=Bl h;obtain⟨qN,kb⟩:=hL x jR;obtain⟨r,rfl⟩:∃ r:Nat,x=r:=⟨x.toNat,by omega⟩;obtain⟨k,je,-,-⟩:=Bl (l:=J) (i:=r) AA;have j1:IntKind.i64.wrap ((j:Int)+1)=((j+1:Nat):Int):=Ay AA;have qK:=(Al.1 ho).1;have jB:(J.map Aw)[r]?=some (kR k):=by rw[Ai,je];rfl
 have jQ:((L.take (j+1)).map fun x=>J.getD x.toNat kz).map Aw=((L.take j).map fun x=>J.getD x.toNat kz).map Aw++[(kR k)]:=by
  rw[Hk,hx];simp only[Pf,Dl,A2,Bz,J0,E0,je];rfl
 obtain⟨u2,s5,e5,g5,l5,k5,-,c5⟩:=Mp (bytes:=40) (y:=.lst 1 [(kR k)]) (ys:=[(kR k)]) hg AA rfl AA (G6 _) AE (Lp [k]) AJ;have ji:∀ i,i<s0.length+1->i ∉ u.refs:=fun i hi hm=>by have:=(C1 hg i hm).1;omega
 have jj:=(k5 s0.length qK (ji _ AA)).trans ho;have cu:=Lc (Bx g5);have cv:=Bx g5;have jS:(Ao L)[j]?=some [iV (r:Int)]:=by unfold Ao;rw[Ai,hx];rfl
 simp only[go_sem,Ar h,jS];refine Ad AD ?_;simp only[go_sem,ho,jB,e5];refine J6 (by repeat (first | exact trivial | refine⟨.inl AK,?_⟩ | refine⟨by rfl,?_⟩ | refine⟨.inr ⟨by rfl,by rfl⟩,?_⟩)) (by repeat (first | exact trivial | refine⟨.inl AK,?_⟩ | refine⟨by rfl,?_⟩ | refine⟨.inr ⟨by rfl,by rfl⟩,?_⟩)) ?_;simp only[go_sem,jj,cu,cv];refine J6 (by repeat (first | exact trivial | refine⟨.inl AK,?_⟩ | refine⟨by rfl,?_⟩ | refine⟨.inr ⟨by rfl,by rfl⟩,?_⟩)) (by repeat (first | exact trivial | refine⟨.inl AK,?_⟩ | refine⟨by rfl,?_⟩ | refine⟨.inr ⟨by rfl,by rfl⟩,?_⟩)) ?_;simp only[go_sem,j1];refine Am (jh (j+1,u2,_) AH ⟨h,fun i hi=>?_,Bv (Al.1 jj).1,?_,fun hc=>Fi (c5 (qh hc)) ?_⟩) rfl
 .simp only;rw[Bk AA,k5 i AA (ji i AA)];exact hk i hi
 .simp only;rw[jQ];exact Dv g5 AA
 .intro i hi;exact Ee g5 i (by simpa[Ob.refs,Ah,V.refs] using hi)
def A9f{s:St}{lo jT:Nat}{u w:V}{L:List (V × Ent)}{Y:List Ent}(h:NG s lo u L)(hw:GW s 4 55 jT w (Y.map Ent.row)):
  (∀ j∈u.refs,j ∉ w.refs)/\∀ p∈L,∀ j∈p.1.refs,j ∉ w.refs:=by
 obtain⟨h1,h2⟩:=h;refine⟨fun j hj hm=>?_,fun p hp j hj hm=>?_⟩
 .rcases h1 with⟨rfl,-⟩ | ⟨hn,o,g,rfl,ho,-⟩
  .simp[V.refs]at hj
  rcases hw with⟨rfl,-⟩ | ⟨-,o',g',rfl,qf,-⟩
  .simp[V.refs]at hm
  simp[V.refs]at hj hm;subst hj hm;rw[ho]at qf
  have h3:(L.map Ea).flatten=(Y.map Ent.row).flatten:=by
   simp only[Pg,Ob.row.injEq]at qf;exact qf.1
  match L,hn with
  | p::L,_=>
   have h4:=congrArg Ah h3;rw[A3w]at h4;rcases(h2 p Cr).2 with⟨-,h5⟩ | ⟨-,ib,gb,h5,-⟩
   .exact(h2 p Cr).1 (by simpa using h5)
   .rw[A2,Fe,Hn]at h4;simp[Ea,Ah,V.refs,h5]at h4
 .rcases(h2 p hp).2 with⟨h5,-⟩ | ⟨-,ib,gb,h5,ho,-⟩
  .rw[h5]at hj;simp[V.refs]at hj
  rcases hw with⟨rfl,-⟩ | ⟨-,o',g',rfl,qf,-⟩
  .simp[V.refs]at hm
  rw[h5]at hj;simp[V.refs]at hj hm;subst hj hm;have h:=ho.symm.trans qf;simp only[Pg,Ob.row.injEq]at h;exact absurd h.2.1 AP
def Afw{s s':St}{lo:Nat}{u:V}{L:List (V × Ent)}(h:NG s lo u L)(h1:∀ j∈u.refs,s'[j]?=s[j]?)(h2:∀ p∈L,∀ j∈p.1.refs,s'[j]?=s[j]?):NG s' lo u L:=
 ⟨Gu h.1 h1,fun p hp=>⟨(h.2 p hp).1,Gu (h.2 p hp).2 (h2 p hp)⟩⟩
def Bnq{s:St}{lo:Nat}{u:V}{L:List (V × Ent)}(h:NG s lo u L):(∀ j∈u.refs,j<s.length)/\∀ p∈L,∀ j∈p.1.refs,j<s.length:=⟨Ee h.1,fun p hp=>Ee (h.2 p hp).2⟩
def A5o{out:List Ent}{y:Ent}(h:∀ x∈out,x.sites.length<=1000)(hy:y.sites.length<=1000):∀ x∈C8 out y,x.sites.length<=1000:=by
 unfold C8
 split
 .intro x hx;obtain⟨i,hi⟩:=List.mem_iff_getElem?.1 hx;rw[List.getElem?_modify]at hi
  cases hg:out[i]? with
  | none=>rw[hg]at hi;simp at hi
  | some y0=>
   rw[hg]at hi;have hm:=h y0 (F0 hg);simp only[Option.map_eq_map,Is,Pg]at hi;rw[<-hi]
   split<;>exact hm
 .intro x hx;rcases Ch.1 hx with hx | hx
  .exact h x (Jz hx)
  .rcases Bo.1 hx with rfl | hx
   .exact hy
   .exact h x (Vz hx)
def Aic:∀ {L out:List Ent},(∀ x∈out,x.sites.length<=1000)->(∀ x∈L,x.sites.length<=1000)->∀ x∈L.foldl C8 out,x.sites.length<=1000
 | [],_,h,_=>h
 | e::L,out,h,hs=>Aic (L:=L) (out:=C8 out e) (A5o h (hs e Cr)) fun x hx=>hs x (Db _ hx)
def Bd2(out:List Ent)(y:Ent):(C8 out y).length<=out.length+1:=by
 unfold C8
 split
 .rw[List.length_modify];omega
 .rw[Aq,Bg,D5,E3];have:=Yz y out;omega
def Ajq:∀ (L out:List Ent),(L.foldl C8 out).length<=out.length+L.length
 | [],_=>An _
 | e::L,out=>by
  have h1:=Ajq L (C8 out e);have h2:=Bd2 out e;rw[Qq,Bg];omega
def A9g{out:List Ent}{y:Ent}(h:Gt y out=false):C8 out y=out.take (C9 y out)++y::out.drop (C9 y out):=by
 unfold C8;rw[if_neg (by rw[h];simp)]
def A9h{out:List Ent}{y:Ent}(h:Gt y out=true):C8 out y=out.modify (C9 y out) (fun x=>N7 x y):=by
 unfold C8;rw[if_pos h]
def Axx{s:St}{ob k:Nat}{a b c d:V}{e:Env}{x:Nat}(q:s[ob]?=some (.row [a,b,c,d] k 0 0))(he:e.get x=.ptr ob 0 3:=by rfl):Af (.load 1 true (.t x)) e s=some (d,s):=by
 simp only[Af,Ac,he,H6,q];rfl
def Bnr{τ:St}{i x y y2 t:Nat}{a b u:V}{e:Env}{k:IntKind}{c:Int}(h:τ[i]?=some (.row [a,b] t 0 0))(h1:e.get x=.ptr i 0 0)(h2:e.get y=u)(hu:u.cellB=true)(h3:e.get y2=.int k c):Ca e τ [AR.cell x 2 false,AR.tmp y,AR.tmp y2]=some (.tup [.agg [a,b],u,.int k c]):=by
 simp only[Ca,J1,Acf,Gs,h1,h2,h3,H6,h]
 cases u<;>first | rfl | cases hu
def A5p(a b:Int):Jp [a,b]=[min a b,max a b]:=by
 have hp:=Apj [a,b];have hs:=A47 [a,b];have hl:=Ac6 [a,b]
 match hq:Jp [a,b],hl with
 | [x,y],_=>
  rw[hq]at hp hs;have h1:x<=y:=by simpa using hs
  have hx:x∈[a,b]:=hp.mem_iff.1 AE;have hy:y∈[a,b]:=hp.mem_iff.1 AE;have ha:a∈[x,y]:=hp.mem_iff.2 AE;have hb:b∈[x,y]:=hp.mem_iff.2 AE;simp only[Bo,Of,or_false]at hx hy ha hb;have e1:x=min a b:=by omega
  have e2:y=max a b:=by omega
  rw[e1,e2]
set_option maxHeartbeats 4000000 in
def Bd3{p q:Gp}(hp:PY p)(hq:PY q)(hM:∀ x∈Fr p q,x<((B9 q).length:Int))(z:Bool)(t:Nat)(n:Int)(E:List Ent)(hE:E.length<=20)(hs:∀ e∈E,e.sites.length<=1000/\e.sites≠[])(ho:K4 E)(hv:H3 n E=true)(hK:(B9 p).length<=1000000000000)(hJ:(B9 q).length<=1000000000000):
  Fn TT PT 8 [.agg [iV n,SL z t (E.map Ent.row)],.agg p.row,.agg q.row] (Az1 n ((Fa (B9 p) (Fr p q) (B9 q) E).foldl C8 []) (My (B9 p) (Fr p q) (B9 q) E)):=by
 have g0:=Aqb z t n E ho;rw[hv]at g0;have g1:=A44 hp hq;have gk:=Aji hq.px;rw[W8]at gk;have jt:(Fr p q).length=(B9 p).length:=by rw[Add];exact Aph p q
 have g2:=fun(e:Ent) (he:e∈E)=>A9e hp.px (Fr p q) jt e (hs e he).1 hK
 have jJ:=D7 p;have jL:=D7 q;rw[jJ]at g1 g2 ⊢;rw[jL]at g1 gk ⊢;generalize B9 p=K at *;generalize B9 q=J at *;generalize Fr p q=M at *;have jp:(E.map Ent.row).length=E.length:=Aj ..;have ju:=Ad1 (L:=Fa K M J E) (out:=[]) (fun x hx=>by cases hx) (Akn K M J E)
 suffices h:∃ v s,Vt TT PT 8 [.agg [iV n,SL z t (E.map Ent.row)],.agg (gR p),.agg (gR q)] v s/\∃ uE LE uL,v=.tup [.agg [iV n,uE],uL,iV 0]/\Cl s/\NG s 5 uE LE/\LE.map (·.2)=(Fa K M J E).foldl C8 []/\GW s 4 55 5 uL ((My K M J E).map Ent.row) by
  obtain⟨v,s,hf,uE,LE,uL,rfl,-,h1,h2,h3⟩:=h;have h4:=A3y hf (.cons (Bm9 h1 _) (.cons (Aym (Oo (I1 h3 AA (Gk _) (J3 _)) (Bx h3))) (.cons (Aym (H2 rfl)) .nil)));rw[Aj9 h2 ju]at h4;exact h4
 refine Awu T8 rfl ?_ ?_;rotate_left
 .rintro v s ⟨uE,LE,uL,rfl,h1,h2,-,h3⟩;refine⟨h1,?_,fun i hi=>?_⟩
  .have h4:Gc uL=true:=by rcases h3 with⟨rfl,-⟩ | ⟨-,_,_,rfl,-⟩<;>rfl
   show(Gc (.agg [iV n,uE])&&(Gc uL&&true))=true;rw[h4];simp only[Gc,Bp,Ce,Bx h2.1];rfl
  .simp only[V.refs,Ah,Ci,Bw]at hi;rcases Ch.1 hi with hi | hi
   .exact Ee h2.1 i hi
   .exact Ee h3 i hi
 simp only[go_sem];refine Ab g0 AB ?_;simp only[go_sem];refine Ad AD ?_;simp only[go_sem];refine Ax g1 AB ?_;simp only[go_sem];refine Ax gk AB ?_;simp only[go_sem,jp];obtain⟨σ0,jl⟩:∃ σ0:St,σ0=[.row [iV n,SL z t (E.map Ent.row)] 35 0 0,gO p,gO q,.row [iV 0,.nils] 35 0 0]:=⟨_,rfl⟩
 refine Bh (α:=Nat × V × List (V × Ent) × V × St) (fun a=>E.length - a.1) (fun a=>[(4,.ptr 1 0 0),(6,.ptr 3 0 0),(9,SL true 0 (Ao M)),(10,SL true 0 (J.map Aw)),(11,.ptr 4 0 0),(12,a.2.2.2.1),(36,SL z t (E.map Ent.row)),(37,iV (E.length:Int)),(38,iV (a.1:Int))]) (fun a=>a.2.2.2.2)
  (fun a=>a.1<=E.length/\(∀ j,j<4->a.2.2.2.2[j]?=σ0[j]?)/\a.2.2.2.2[4]?=some (.row [iV n,a.2.1] 35 0 0)/\Cl a.2.2.2.2/\NG a.2.2.2.2 5 a.2.1 a.2.2.1/\a.2.2.1.map (·.2)=(Fa K M J (E.take a.1)).foldl C8 []/\GW a.2.2.2.2 4 55 5 a.2.2.2.1 ((My K M J (E.take a.1)).map Ent.row)) ?_ (0,.nils,[],.nils,_) ⟨Av _,fun j hj=>by rw[jl];match j,hj with | 0,_=>rfl | 1,_=>rfl | 2,_=>rfl | 3,_=>rfl,rfl,(by intro ob qC j hj;simp only[Bo,Of,or_false]at qC;rcases qC with rfl | rfl | rfl | rfl | rfl<;>simp[Ob.refs,Ah,V.refs,Pj (G8 _ _ _)]at hj),⟨De,fun p hp=>by cases hp⟩,rfl,De⟩
 rintro⟨i,uE,LE,uL,s⟩ ⟨hi,hf,h4,qh,qb,qc,qe⟩ ih;simp only at hi hf h4 qh qb qc qe ih;refine Az Bom ?_;have e1:=hf 1 AA;have e3:=hf 3 AA;rw[jl]at e1 e3;simp only[Tw,Pc]at e1 e3;have ka:=(Al.1 h4).1;have jD:=Akp K M J (E.take i);have jF:=Ako K M J (E.take i);rw[D5]at jD jF;obtain⟨qr,qH⟩:=A9f qb qe;obtain⟨qj,qw⟩:=Bnq qb;have qY:∀ j,j<5->j ∉ uL.refs:=fun j hj hm=>by have:=(C1 qe j hm).1;omega
 rcases Bb i E.length with h | h;rotate_left
 .have jy:i=E.length:=by omega
  subst jy;rw[Dg]at qc qe;have w3:∀ X:Ob,(s.set 3 X)[3]?=some X:=fun X=>Bv AA
  have cu:=Lc (Bx qb.1);have cv:=Bx qb.1;simp only[go_sem,Bi h,h4,e3,w3,cu,cv];exact⟨_,Bnr (w3 _) rfl rfl (Bx qe) rfl,uE,LE,uL,rfl,Fi qh fun j hj=>Ee qb.1 j (by simpa[Ob.refs,Ah,V.refs] using hj),Afw qb (fun j hj=>Bk (by have:=(C1 qb.1 j hj).1;omega)) (fun p hp j hj=>Bk (by have:=(C1 (qb.2 p hp).2 j hj).1;omega)),qc,Dv qe AA⟩
 obtain⟨e,he,-,qm⟩:=Bl h;have i1:IntKind.i64.wrap ((i:Int)+1)=((i+1:Nat):Int):=Ay AA;have ja:(E.map Ent.row)[i]?=some (eR e e.sl):=by rw[Ai,he];rfl
 have gc:=g2 e qm;have qx:=Aty (K:=K) (M:=M) (J:=J) he;have qv:=Atz (K:=K) (M:=M) (J:=J) he;simp only[Q0]at gc;have gA:∀ (j:Nat) (o:Ob) (X:St),s[j]?=some o->(s++X)[j]?=some o:=fun j o X h=>Bs h
 have ql:∀ X:Ob,(s++[X])[s.length]?=some X:=fun X=>Nc _ _
 cases hcs:Ft K M e.sites with
 | none=>
  have qs:Iq K M J e=none:=by unfold Iq;rw[hcs];rfl
  rw[hcs]at gc;rw[qs]at qx qv;unfold Anm at gc;simp only at gc;have qT:=Ap6 e (by have:=(hs e qm).1;omega);simp only[Q0]at qT;simp only[go_sem,Ar h,ja,gA _ _ _ e1];refine Ab gc AB ?_;simp only[go_sem,ql];refine Ab qT AB ?_;obtain⟨u2,s2,a1,g5,l5,k5,r5,c5⟩:=Mp (bytes:=48) (y:=.lst 1 [(eR e.own e.own.sl)]) (ys:=[(eR e.own e.own.sl)]) (H0 (l:=[eO e e.sl]) qe) AJ rfl AA (Gk _) AE (J3 [e.own]) (by rw[Aj];simp;omega);have hk:∀ j,j<s.length->j ∉ uL.refs->s2[j]?=s[j]?:=fun j h1 h2=>by rw[k5 j AJ h2,C3 h1]
  simp only[go_sem,a1,i1];refine Am (ih (i+1,uE,LE,u2,s2) AH ⟨h,fun j hj=>(hk j AA (qY j AA)).trans (hf j hj),(hk 4 AA (qY 4 AA)).trans h4,c5 (Uv qh (J3 [e] _ Cr)),Afw qb (fun j hj=>hk j (qj j hj) (qr j hj)) (fun p hp j hj=>hk j (qw p hp j hj) (qH p hp j hj)),?_,?_⟩) rfl
  .simp only;rw[qx];simp only[Option.toList_none,Bw];exact qc
  .simp only;rw[qv];simp only[Option.isNone_none,if_pos,Dl];exact g5
 | some r=>
  have qD:=Wd hcs;have qs:Iq K M J e=some ⟨e.kind,(Ip e.kind (r.map fun n:Nat=>(n:Int))).map (fun s=>J.getD s.toNat kz),e.seen,e.missed,true,0⟩:=by unfold Iq;rw[hcs];rfl
  have jN:∀ n∈r,(n:Int)<(J.length:Int):=Ai0 hM hcs
  have jq:∀ x∈Ip e.kind (r.map fun n:Nat=>(n:Int)),0<=x/\x<(J.length:Int):=Atx fun x hx=>by
   obtain⟨n,hn,rfl⟩:=Cs.1 hx;exact⟨by omega,jN n hn⟩
  have jW:(Ip e.kind (r.map fun n:Nat=>(n:Int))).length=e.sites.length:=by rw[Ajn,Aj,qD]
  rw[hcs]at gc;unfold Anm at gc;simp only at gc;have jX:=(hs e qm).1;simp only[go_sem,Ar h,ja,gA _ _ _ e1];refine Ab gc AB ?_
  have qk:H8 e.kind e.sites.length=true:=by
   have h1:=(A05 hv).2.2.1 e qm;unfold okV Da at h1;simp only[Ak]at h1;exact h1.1.1
  generalize hZ:Ip e.kind (r.map fun n:Nat=>(n:Int))=Z at *;have h3:e.kind=1\/e.kind=2\/e.kind≠1/\e.kind≠2:=by omega
  rcases h3 with hk | hk | ⟨jc,jd⟩
  case' inl=>
   obtain⟨a,b,rfl⟩:∃ a b,r=[a,b]:=by
    unfold H8 at qk;rw[hk]at qk;have h2:e.sites.length=2:=by simpa using qk
    rw[h2]at qD
    match r,qD with
    | [a,b],_=>exact⟨a,b,rfl⟩
   have qq:Z=[min (a:Int) (b:Int),max (a:Int) (b:Int)]:=by rw[<-hZ];unfold Ip;rw[if_pos hk];exact A5p _ _
   clear hZ;subst qq;have f1:(e.kind==1)=true:=by simpa using hk
   have jw:(Ao [(a:Int),(b:Int)])[0]?=some [iV (a:Int)]:=rfl;have jx:(Ao [(a:Int),(b:Int)])[1]?=some [iV (b:Int)]:=rfl;have jC:V.lst 1 [[iV (min (a:Int) (b:Int))],[iV (max (a:Int) (b:Int))]]=SL false 1 (Ao [min (a:Int) (b:Int),max (a:Int) (b:Int)]):=rfl;simp only[go_sem,ql,f1];refine Ad AD ?_;simp only[go_sem,ql,jw,jx];rw[jC]
  case' inr.inl=>
   have jO:(r.map fun n:Nat=>(n:Int))≠[]:=fun e1=>by
    have h1:=congrArg List.length e1;rw[Aj,qD]at h1;exact(hs e qm).2 (M6.1 h1)
   have qq:Z=Lh (r.map fun n:Nat=>(n:Int)):=by rw[<-hZ];unfold Ip;rw[if_neg AA,if_pos hk];rfl
   clear hZ;subst qq;have f1:(e.kind==1)=false:=by rw[hk];rfl
   have f2:(e.kind==2)=true:=by rw[hk];rfl
   have g5:=A5h true 0 (r.map fun n:Nat=>(n:Int)) jO (by rw[Aj];omega);simp only[go_sem,ql,f1,f2];refine Ab g5 AB ?_;simp only[go_sem,ql]
  case' inr.inr=>
   have qq:Z=r.map fun n:Nat=>(n:Int):=by rw[<-hZ];unfold Ip;rw[if_neg jc,if_neg jd]
   clear hZ;subst qq;have f1:(e.kind==1)=false:=by simpa using jc
   have f2:(e.kind==2)=false:=by simpa using jd
   simp only[go_sem,ql,f1,f2]
  all_goals
   rw[show s++[eO e e.sl,eO e .nils]=(s++[eO e e.sl])++[eO e .nils] by simp,show s.length+1=(s++[eO e e.sl]).length by simp];refine Am (Bd1 jq AA hJ fun u s3 jA qn jb qZ=>?_) (by simp[F2];rfl);have qu:(s++[eO e e.sl]).length=s.length+1:=by simp
   have hk:∀ j,j<s.length->s3[j]?=s[j]?:=fun j hj=>(jA j AA).trans (C3 hj)
   have qa:=Afw qb (fun j hj=>hk j (qj j hj)) (fun p hp j hj=>hk j (qw p hp j hj));have qi:=Gu qe fun j hj=>hk j (Ee qe j hj)
   have qt:=qZ (Uv qh (J3 [e] _ Cr));have qg:=(hk 4 AA).trans h4;have qA:GW s3 3 57 5 u _:=Aa5 jb AA;clear jb qZ;obtain⟨y,hy⟩:=Option.isSome_iff_exists.1 (by rw[qs];rfl:(Iq K M J e).isSome=true);have qE:=Zo hy;rw[qs]at hy;have hy:=(Iu hy).symm;have qJ:y.kind=e.kind/\y.seen=e.seen/\y.missed=e.missed:=by rw[hy];exact⟨rfl,rfl,rfl⟩
   have qA:GW s3 3 57 5 u (y.sites.map Aw):=by rw[hy];exact qA
   rw[qu,<-qJ.1,<-qJ.2.1,<-qJ.2.2]at qn;have qL:∀ x∈(Fa K M J (E.take i)).foldl C8 [],x.own=x:=Ad1 (fun x hx=>by cases hx) (Akn K M J _)
   have js:LE.length<=i:=by
    have h1:=congrArg List.length qc;rw[Aj]at h1;have h2:=Ajq (Fa K M J (E.take i)) [];simp only[Dq]at h2;omega
   have jv:K4 ((Fa K M J (E.take i)).foldl C8 []):=fun x hx=>by
    have h1:=Aic (L:=Fa K M J (E.take i)) (out:=[]) (fun x hx=>by cases hx) (fun x hx=>by
     obtain⟨e2,h2,h3⟩:=Yh.1 hx;rw[(Zo h3).2]
     exact(hs e2 (Jz h2)).1) x hx
    omega
   have hX:LE.length=((Fa K M J (E.take i)).foldl C8 []).length:=by rw[<-qc,Aj]
   have jI:=Ai9 true 0 ((Fa K M J (E.take i)).foldl C8 []) y AA jv (by have:=qE.2;omega);have o1:=Ayn (Al9 qa) (Bx qa.1);rw[Aj9 qc qL]at o1
   have oe:OW s3 (.agg (eR y u)) (.agg y.row):=by
    have:=Ak5 (σ:=s3) (.cons (P3 (Em (v:=iV y.kind) rfl)) (.cons (P3 (I1 qA AA (G6 _) (Lp _))) (.cons (P3 (Em (v:=iV y.seen) rfl)) (.cons (P3 (Em (v:=iV y.missed) rfl)) .nil))));rw[<-qE.1];exact this
   simp only[go_sem,qg,qn];refine Ama (.cons o1 (.cons oe .nil)) jI rfl ?_;rw[qs]at qx qv;cases ht:Gt y ((Fa K M J (E.take i)).foldl C8 [])
   .obtain⟨u',s4,w',jK,c4,l4,k4,g4,-⟩:=Au4 (i:=C9 y ((Fa K M J (E.take i)).foldl C8 [])) qt qa (by have:=(Al.1 qg).1;omega) (by rw[hX];exact Yz y _) AA qA (fun e1=>(hs e qm).2 (M6.1 (by rw[<-qE.2,e1];rfl))) (by have:=qE.2;omega);have jY:=(Al.1 qg).1;have qV:=(k4 4 AA).trans qg;have cu:=Lc (Bx g4.1);have cv:=Bx g4.1;simp only[go_sem,qg,qn];refine Aa jK ?_;simp only[go_sem,qV,cu,cv,i1];refine Am (ih (i+1,u',_,uL,_) AH ⟨h,fun j hj=>?_,Bv (Al.1 qV).1,Fi c4 fun j hj=>Ee g4.1 j (by simpa[Ob.refs,Ah,V.refs] using hj),Afw g4 (fun j hj=>Bk (by have:=(C1 g4.1 j hj).1;omega)) (fun p hp j hj=>Bk (by have:=(C1 (g4.2 p hp).2 j hj).1;omega)),?_,?_⟩) rfl
    .simp only;rw[Bk AA,k4 j AA];exact(hk j AA).trans (hf j hj)
    .simp only;rw[qx,<-hy,Acb,Dl,A2,R3,Ach,qc];simp only[Pf,Qq,List.foldl_nil];exact(A9g ht).symm
    .simp only;rw[qv];simp only[Option.isNone_some,Hj,if_false,Bw];exact Dv (Gu qi fun j hj=>k4 j (Ee qi j hj)) AA
   .obtain⟨x0,qN⟩:∃ x0,((Fa K M J (E.take i)).foldl C8 [])[C9 y ((Fa K M J (E.take i)).foldl C8 [])]?=some x0:=by
     unfold Gt at ht
     split at ht
     .exact⟨_,‹_›⟩
     .cases ht
    have qG:C8 ((Fa K M J (E.take i)).foldl C8 []) y=((Fa K M J (E.take i)).foldl C8 []).modify (C9 y ((Fa K M J (E.take i)).foldl C8 [])) (fun x=>N7 x y):=A9h ht;generalize C9 y ((Fa K M J (E.take i)).foldl C8 [])=i0 at *;rw[<-qc,Ai]at qN;obtain⟨p0,qy,rfl⟩:=Cg.1 qN;have qB:=(Al.1 qy).1;have qM:(LE.map Ea)[i0]?=some (eR p0.2 p0.1):=by rw[Ai,qy];rfl
    rcases qa.1 with⟨rfl,jg⟩ | ⟨jg,o,g,rfl,qf,jE⟩
    .rw[show LE=[] by simpa using jg]at qB;cases qB
    have qF:(LE.map Ea).length=LE.length:=Aj ..;rw[qF]at qg;have jk:=(Al.1 qf).1;obtain⟨L1,qp⟩:∃ L1,L1=(LE.map Ea).set i0 [iV p0.2.kind,p0.1,iV (max p0.2.seen y.seen),iV p0.2.missed]:=⟨_,rfl⟩;obtain⟨LE2,qd⟩:∃ LE2,LE2=LE.set i0 (p0.1,N7 p0.2 y):=⟨_,rfl⟩
    have jf:∀ r∈L1,r.length=4:=fun r hr=>by
     rw[qp]at hr;rcases List.mem_or_eq_of_mem_set hr with hr | rfl
     .exact Lq LE r hr
     .rfl
    have jM:L1[i0]?=some [iV p0.2.kind,p0.1,iV (max p0.2.seen y.seen),iV p0.2.missed]:=by rw[qp];exact Bv AA
    have jo:L1.length=LE.length:=by rw[qp,Jc,qF]
    have c2:=Vj (e:=55) (g:=g) (z:=0) (Ss (j:=2) (Lq LE) qM rfl);have c3:=Vj (e:=55) (g:=g) (z:=0) (Ss (j:=3) (Lq LE) qM rfl);have q1:=Ad3 (j:=2) (c:=iV (max p0.2.seen y.seen)) (Lq LE) qM AA;have q3:=Ad3 (j:=3) (c:=iV (min p0.2.missed y.missed)) jf jM AA;rw[show(LE.map Ea).set i0 (((eR p0.2 p0.1):List V).set 2 (iV (max p0.2.seen y.seen)))=L1 from qp.symm]at q1;rw[show L1.set i0 (([iV p0.2.kind,p0.1,iV (max p0.2.seen y.seen),iV p0.2.missed]:List V).set 3 (iV (min p0.2.missed y.missed)))=LE2.map Ea by rw[qp,qd,Qs,Aht];rfl]at q3;have b1:(i0*4+2+1<=(LE.map Ea).flatten.length)=True:=eq_true (by rw[Ga (Lq LE),qF];omega);have b3:(i0*4+3+1<=L1.flatten.length)=True:=eq_true (by rw[Ga jf,jo];omega);have jm:=fun X:Ob=>Bv (l:=s3) (a:=X) jk
    have jn:=fun X Y:Ob=>Qs (l:=s3) (i:=o) (a:=X) (b:=Y)
    simp only[go_sem,qg,Lt qB];refine Ad AD ?_;simp only[go_sem,qf,qn,c2,c3,b1,q1];have jZ:o<s.length:=qj o AS;refine J6 (by repeat (first | exact trivial | refine⟨.inl AK,?_⟩ | refine⟨by rfl,?_⟩ | refine⟨.inr ⟨by rfl,by rfl⟩,?_⟩)) ⟨.inr ⟨Axx qn rfl,Axx ((Bk AA).trans qn) rfl⟩,.inl AK,.inl AK,.inl AK,trivial⟩ ?_;simp only[go_sem,jm,b3,q3,jn];refine J6 (by repeat (first | exact trivial | refine⟨.inl AK,?_⟩ | refine⟨by rfl,?_⟩ | refine⟨.inr ⟨by rfl,by rfl⟩,?_⟩)) (by repeat (first | exact trivial | refine⟨.inl AK,?_⟩ | refine⟨by rfl,?_⟩ | refine⟨.inr ⟨by rfl,by rfl⟩,?_⟩)) ?_
    have jG:∀ v xs,GW s3 3 57 5 v xs->∀ j∈v.refs,o≠j:=fun v xs hg j hj e1=>by
     subst e1;rcases hg with⟨rfl,-⟩ | ⟨-,ib,gb,rfl,qC,-⟩
     .simp[V.refs]at hj
     .simp[V.refs]at hj;subst hj;have h1:=qC.symm.trans qf;simp only[Pg,Ob.row.injEq]at h1;exact absurd h1.2.1 AP
    have qz:∀ p∈LE2,p.2.sites≠[]/\GW s3 3 57 5 p.1 (p.2.sites.map Aw):=fun p hp=>by
     rw[qd]at hp;rcases List.mem_or_eq_of_mem_set hp with hp | rfl
     .exact qa.2 p hp
     .exact qa.2 p0 (F0 qy)
    have qU:LE2.length=LE.length:=by rw[qd,Jc]
    simp only[go_sem,i1];refine Am (ih (i+1,.sl o g 0 LE.length 4 true,LE2,uL,_) AH ⟨h,fun j hj=>?_,(Bk AA).trans qg,Fi qt fun j hj=>Aj8 (L:=LE2) (fun p hp=>qz p hp) j hj,⟨.inr ⟨fun e1=>?_,o,g,by rw[Aj,qU],Bv jk,jE⟩,fun p hp=>⟨(qz p hp).1,Gu (qz p hp).2 fun j hj=>Bk (jG _ _ (qz p hp).2 j hj)⟩⟩,?_,?_⟩) rfl
    .simp only;rw[Bk AA];exact(hk j AA).trans (hf j hj)
    .have h1:=congrArg List.length e1;rw[Aj,qU]at h1;rw[Dq]at h1;omega
    .simp only;rw[qx,<-hy,Acb];simp only[Pf,Qq,List.foldl_nil];rw[qG,<-qc,qd,Aht];refine Tx fun k=>?_
     rw[List.getElem?_modify,List.getElem?_set,Ai,Aj];by_cases h7:i0=k
     .subst h7;simp[qy,qB];rw[(Al.1 qy).2]
     .simp[h7]
    .simp only;rw[qv];simp only[Option.isNone_some,Hj,if_false,Bw];exact Gu qi fun j hj=>Bk fun(e1:o=_)=>qr o AS (by rw[e1];exact hj)
def Aq1(p q:Gp):∀ x∈Fr p q,x<((B9 q).length:Int):=fun x hx=>by
 unfold Fr Ih at hx;obtain⟨y,-,hy⟩:=List.mem_flatMap.1 hx;obtain⟨i,hi⟩:=List.mem_iff_getElem?.1 hy;rw[Add,show(Ik q).length=(He (H5 q)).length from(Y6 q.thrs).symm];rcases A4o hi with rfl | ⟨k,rfl,⟨y,-,h⟩,-⟩
 .omega
 .have:=(Al.1 h).1;omega
def A1h(p q:Gp)(z:Bool)(t:Nat)(n:Int)(E:List Ent)(ho:K4 E)(hv:H3 n E=false):
  Fn TT PT 7 [.agg [iV n,SL z t (E.map Ent.row)],.agg p.row,.agg q.row] Az2:=by
 have g0:=Ar8 z t n E ho;rw[hv]at g0;rw[D7 p,D7 q];refine Bc T7 rfl ?_;simp only[go_sem];refine Ab g0 AB ?_;simp only[go_sem];exact Fp rfl
def A1i(p q:Gp)(z:Bool)(t:Nat)(n:Int)(E:List Ent)(ho:K4 E)(hv:H3 n E=false):
  Fn TT PT 8 [.agg [iV n,SL z t (E.map Ent.row)],.agg p.row,.agg q.row] Az2:=by
 have g0:=Aqb z t n E ho;rw[hv]at g0;rw[D7 p,D7 q];refine Bc T8 rfl ?_;simp only[go_sem];refine Ab g0 AB ?_;simp only[go_sem];exact Fp rfl
def Bd4{p q:Gp}(hp:PY p)(hq:PY q)(n:Int)(E:List Ent)(hE:E.length<=20)(hs:∀ e∈E,2<=e.sites.length/\e.sites.length<=4):
  ∃ (m c:Int) (X Y:List Ent),(∀ f,f=7\/f=8->Fn TT PT f [.agg [iV n,SL true 0 (E.map Ent.row)],.agg p.row,.agg q.row] (.tup [.agg [iV m,SL true 0 (X.map Ent.row)],SL true 0 (Y.map Ent.row),iV c]))/\K4 X/\K4 Y/\X.length<=20/\Y.length<=20:=by
 have ho:K4 E:=fun e he=>by have:=hs e he;omega
 cases hv:H3 n E
 .refine⟨0,1,[],[],?_,fun x hx=>by simp at hx,fun x hx=>by simp at hx,by simp,by simp⟩;rintro f (rfl | rfl)
  .exact A1h p q true 0 n E ho hv
  .exact A1i p q true 0 n E ho hv
 .have qo:∀ e∈E,e.sites.length<=1000/\e.sites≠[]:=fun e he=>by
   have:=hs e he;exact⟨by omega,fun h=>by rw[h]at this;simp at this⟩
  refine⟨n,0,(Fa (B9 p) (Fr p q) (B9 q) E).foldl C8 [],My (B9 p) (Fr p q) (B9 q) E,?_,fun x hx=>?_,fun x hx=>?_,?_,?_⟩
  .rintro f (rfl | rfl)
   .exact A5n hp hq (Aq1 p q) true 0 n E hE qo ho hv (Afv hp)
   .exact Bd3 hp hq (Aq1 p q) true 0 n E hE qo ho hv (Afv hp) (Afv hq)
  .have:=Aic (L:=Fa (B9 p) (Fr p q) (B9 q) E) (out:=[]) (fun x hx=>by cases hx) (fun x hx=>by
    obtain⟨e,h2,h3⟩:=Yh.1 hx;rw[(Zo h3).2]
    exact(qo e h2).1) x hx
   omega
  .unfold My at hx;obtain⟨e,he,rfl⟩:=Cs.1 hx;have:=hs e (Rz.1 he).1;show e.sites.length<=_;omega
  .have h1:=Ajq (Fa (B9 p) (Fr p q) (B9 q) E) [];have h2:=Ako (B9 p) (Fr p q) (B9 q) E;simp only[Dq]at h1;omega
  .have:=Akp (B9 p) (Fr p q) (B9 q) E;omega
set_option maxHeartbeats 4000000 in
def A0n(z0 z1 z2:Bool)(t0 t1 t2:Nat)(a b c:List UInt8)(un:Bool)(z:Bool)(t:Nat)(l:List Item)(n:Nat)(ha:a.length<=9223372036854775807)(hb:b.length<=9223372036854775807)(hc:c.length<=9223372036854775807)(hn:n<256)(hl:l.length<=9223372036854775807)(jH:∀ x∈l,x.ok):
  Fn TT PT 3 [.agg [SL z0 t0 (B4 a),SL z1 t1 (B4 b),SL z2 t2 (B4 c),.bool un],SL z t (l.map Item.row),.int .u8 n] (.bool true):=by
 obtain⟨v,q1,A,B,ok,rfl,hv⟩:=A1d z0 z1 z2 t0 t1 t2 a b c un ha hb hc;have qW:=D7 A;have qX:=D7 B;rw[qW,qX]at q1;refine Bc T3 rfl ?_;simp only[go_sem];refine Ab q1 AB ?_;simp only[go_sem];cases ok
 .simp only[go_sem];refine Ab Api AB ?_;simp only[go_sem];exact Ae rfl rfl
 obtain⟨pA,pB,-⟩:=hv rfl;obtain⟨jP,qo⟩:=A2t (B9 A) l;have g1:=A49 pA.px z t l n hn hl jH (Afv pA);obtain⟨m,c,X,Y,gR,oX,oY,lX,lY⟩:=Bd4 pA pB (n:Int) _ jP qo;have gs:=Asd true true 0 0 (n:Int) _ (fun e he=>by have:=qo e he;omega) (by omega:(Vr (B9 A) l).length<=1000000);have gx:=Asd true true 0 0 m X oX AA;have gy:=Asb true true 0 0 Y oY AA;have g2:=gR _ (.inl rfl);have g3:=gR _ (.inr rfl);clear gR;rw[qW]at g1 g2 g3;rw[qX]at g2 g3;generalize Vr (B9 A) l=E at *;simp only[go_sem];refine Ab g1 AB ?_;simp only[go_sem];refine Ab g2 AB ?_;simp only[go_sem];refine Ab g3 AB ?_;simp only[go_sem];refine Ad AD ?_;simp only[go_sem,beq_self_eq_true];refine Ax gx AB ?_;simp only[go_sem];refine Ax gy AB ?_;simp only[go_sem];refine Ax g1 AB ?_;simp only[go_sem];refine Ax gs AB ?_;simp only[go_sem];refine Ax Api AB ?_;simp only[go_sem];exact Ae rfl rfl
