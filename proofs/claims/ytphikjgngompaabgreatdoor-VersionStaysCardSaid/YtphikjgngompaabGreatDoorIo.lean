/- Walks: the maker of programs: programs. Printed by gen_io.py. -/
import Derived.Test.YtphikjgngompaabGreatDoorId
import Derived.Test.YtphikjgngompaabGreatDoorLu
set_option linter.all false
namespace Go.Proofs.YtphikjgngompaabGreatDoor.KM
open Go
structure OKp (p:Gp):Prop where
 sh:ShG p
 len:(Ff p).length<=10000000000
 siz:∀ t∈p.thrs,Sp.szs t.body<=1000000
 blk:C3 p.row<=1000000
 ln:LnG p
 few:p.thrs.length<=5
 nd:(p.thrs.map fun t=>t.nm).Nodup
 sx:∀ t∈p.thrs,Sp.szs t.body<=60/\∀ x∈Sp.hdss t.body,x.length<=302
def nml:List (List UInt8):=[[109,97,105,110],[116,49],[116,50],[116,51]]
def Bbi{L:List Tp}{i:Nat}{nm:List UInt8}{t:Tp}(h:(L.map fun t=>t.nm)=nml.take i)(hn:([[V.str [109,97,105,110]],[V.str [116,49]],[V.str [116,50]],[V.str [116,51]]]:List (List V))[i]?=some [V.str nm])(ht:t.nm=nm):((L++[t]).map fun t=>t.nm)=nml.take (i+1):=by
 have hn:(nml.map fun x=>[V.str x])[i]?=some [V.str nm]:=hn;rw[Au]at hn
 cases hi:nml[i]? with
 | none=>rw[hi]at hn;cases hn
 | some x=>
  rw[hi]at hn;simp at hn;rw[Fz,h,M3,hi,hn,<-ht];rfl
def Bly{L:List Tp}{i:Nat}(h:(L.map fun t=>t.nm)=nml.take i):(L.map fun t=>t.nm).Nodup:=h ▸ List.Pairwise.sublist (List.take_sublist i nml) AG
def Sm(t:Tp):Prop:=Mw t.nm/\t.locals=[[97],[98]]/\(∀ s∈t.body,SM 2 s)/\t.body.length<=7
def Blz{t:Tp}(h:Sm t):MT t:=by
 obtain⟨h1,h2,h3,h4⟩:=h;refine⟨h1,⟨?_,?_⟩,2,by omega,fun s hs=>(h3 s hs).1.1,by omega⟩
 .rw[h2];exact Be8 AD
 .rw[h2];simp
def Axy:∀ {l:List Sp},(∀ s∈l,SM 2 s)->Cy (l.map Sp.row)<=l.length*2100
 | [],_=>by simp[Cy]
 | x::l,h=>by
  have h1:=(h x AE).2;have h2:=Axy (l:=l) fun s hs=>h s (by simp[hs])
  have:BK 2=2100:=rfl;rw[Aw,Cy,An,G0];omega
def Avf:∀ {L:List Tp},(∀ t∈L,Sm t)->Cy (L.map Tp.row)<=L.length*30000
 | [],_=>by simp[Cy]
 | x::l,h=>by
  obtain⟨h1,h2,h3,h4⟩:=h x AE;have h5:=Avf (L:=l) fun s hs=>h s (by simp[hs])
  have h6:=Axy h3;have h7:=h1.2;have h8:Cy (x.locals.map fun s=>[V.str s])=4:=by rw[h2];rfl
  have h9:x.body.length*2100<=7*2100:=E0 _ h4;rw[Aw,Cy,An,G0,Ab1];omega
def Axz:∀ {L:List Tp},(∀ t∈L,Sm t)->Oo L<=L.length*1000
 | [],_=>by simp[Oo]
 | x::l,h=>by
  obtain⟨h1,h2,h3,h4⟩:=h x AE;have h5:=Axz (L:=l) fun s hs=>h s (by simp[hs])
  have h6:=Abj (k:=2) (l:=x.body) fun s hs=>(h3 s hs).1.1
  have z2:ZB 2=21:=rfl;have h9:x.body.length*ZB 2<=7*ZB 2:=E0 _ h4;have:Oo (x::l)=Sp.szs x.body+Oo l:=by simp[Oo]
  rw[this,An,G0];omega
def Ax0{z1 z2:Bool}{t1 t2:Nat}{L:List Tp}(hL:∀ t∈L,Sm t)(h5:L.length<=5)(h0:L≠[])(jA:(L.map fun t=>t.nm).Nodup):OKp ⟨z1,t1,declsL,z2,t2,L⟩/\Oo L<=1000000:=by
 obtain⟨a,b,c⟩:=Bqq (D:=declsL) (L:=L) ⟨A6i.1,by decide⟩ (fun t ht=>Blz (hL t ht)) h5 h0;have h1:=Avf hL;have h2:=Axz hL;have h3:L.length*30000<=5*30000:=E0 _ h5;have h4:L.length*1000<=5*1000:=E0 _ h5;have hd:Cy (declsL.map Dp.row)<=1000:=by decide +kernel
 refine⟨⟨⟨a.decls,a.nms,a.locs,a.thrs,a.some⟩,b,c,?_,⟨by simp only;decide,by simp only;omega,fun t ht=>?_⟩,h5,jA,fun t ht=>?_⟩,by omega⟩
 .rw[Anw];simp only;omega
 .rw[(hL t ht).2.1];simp
 .obtain⟨-,-,h6,h7⟩:=hL t ht;obtain⟨h8,h9⟩:=Agk fun s hs=>(h6 s hs).1.2
  have jQ:=E0 (YB 2) h7;have jR:YB 2=7:=rfl;exact⟨by omega,h9⟩
def Bl0:MX 1 (Ge 1):=by
 refine⟨.num AA,?_,?_⟩
 .have:(Ge 1).txt.length=1:=by unfold Ge;rw[Ei];rfl
  have e1:EB 1=54:=rfl;omega
 .unfold Ge;rw[G8];have x1:Pw 1=36:=rfl;simp[Cy];omega
def A03{f p:Nat}{res:List AR}{body:AC}{vs:List V}{R:Gp->Prop}(hT:TT f=some ⟨p,res,false,body,none⟩)(hl:vs.length=p)
  (h:W TT PT [.c body] (C4 0 vs) [] (Hd fun e' σ1=>∃ u1 u2 z1 t1 z2 t2 D L,Cd e' σ1 res=some (.agg [u1,u2])/\(OC σ1 u1 (SL z1 t1 (D.map Dp.row))/\u1.cellB=true)/\(OC σ1 u2 (SL z2 t2 (L.map Tp.row))/\u2.cellB=true)/\R ⟨z1,t1,D,z2,t2,L⟩)):∃ p:Gp,Fn TT PT f vs (.agg p.row)/\R p:=by
 obtain⟨e',σ1,hE,u1,u2,z1,t1,z2,t2,D,L,hr,⟨h1,c1⟩,⟨h2,c2⟩,hR⟩:=h;refine⟨⟨z1,t1,D,z2,t2,L⟩,?_,hR⟩;have jB:OV σ1 (.agg [u1,u2]) (.agg [SL z1 t1 (D.map Dp.row),SL z2 t2 (L.map Tp.row)]):=Tf (.cons h1 (.cons h2 .nil));have qr:Da (.agg [SL z1 t1 (D.map Dp.row),SL z2 t2 (L.map Tp.row)])=true:=by simp only[Da,B5,Db,Vp];rfl
 refine Arf hT rfl rfl hl ⟨e',σ1,hE,.agg [u1,u2],Ag [u1,u2],hr,?_,jB _ (fun i hi=>hi),?_,?_⟩
 .show([u1,u2].all V.cellB)=true;simp only[B5,Db,c1,c2];rfl
 .exact Xc qr
 .exact Zp qr
def Azw{s:St}(h:s[3]?=some (.row (declsL.map Dp.row).flatten 80 0 0)):OC s (.sl 3 0 0 9 6 true) (SL true 0 (declsL.map Dp.row))/\(V.sl 3 0 0 9 6 true).cellB=true:=
 ⟨Rw (xs:=declsL.map Dp.row) h AA (Aeb declsL) (Ajv declsL),rfl⟩
set_option maxRecDepth 20000 in
set_option maxHeartbeats 16000000 in
def Avg(z:Bool)(t:Nat)(l:List UInt8)(hl:l.length<=9223372036854775807):∃ p:Gp,Fn TT PT 13 [SL z t (B6 l)] (.agg p.row)/\OKp p:=by
 refine A03 T13 rfl ?_;refine Iy (fun e s=>e=[(0,SL z t (B6 l)),(2,.ptr 0 0 0)]/\s=[.row [.nils,.nils] 29 0 0]) ?_ ?_
 .intro k' qa;simp only[go_sem];exact qa _ _ ⟨rfl,rfl⟩
 rintro _ _ ⟨rfl,rfl⟩;refine Iy (fun e s=>e=[(2,.ptr 0 0 0),(3,.ptr 2 0 0)]/\s=[.row [.nils,.nils] 29 0 0,.row [SL z t (B6 l),iV 0] 89 0 0,mO 1 0 20 false false false false .nils]) ?_ ?_
 .intro k' qa;have hb:V.cellB (SL z t (B6 l))=true:=P7 (Vp _ _ _);simp only[go_sem,hb];exact qa _ _ ⟨rfl,rfl⟩
 rintro _ _ ⟨rfl,rfl⟩;refine Iy (fun e s=>e=[(2,.ptr 0 0 0),(3,.ptr 2 0 0),(4,.ptr 4 0 0)]/\PW s .nils []) ?_ ?_
 .intro k' qa;simp only[go_sem];refine Jg (Aqp _) ?_;simp only[go_sem]
  have qY:MKr [.row [.nils,.nils] 29 0 0,.row [SL z t (B6 l),iV 0] 89 0 0,mO 1 0 20 false false false false .nils,.row (declsL.map Dp.row).flatten 80 0 0,.row [.sl 3 0 0 9 6 true,.nils] 29 0 0] 2 1 .nils []:=by
   refine⟨⟨0,20,false,false,false,false,rfl⟩,⟨z,t,l,0,rfl,Ax _,hl⟩,by decide,Abd,by simp[V.refs],?_⟩;intro ob hm j hj;simp only[Bp,L8,or_false]at hm;rcases hm with rfl | rfl | rfl | rfl | rfl
   .simp[Ob.refs,Ag,V.refs]at hj
   .simp[Ob.refs,Ag,V.refs,O4]at hj
   .simp[Ob.refs,Ag,V.refs]at hj;subst hj;simp
   .simp only[Ob.refs,Ai5]at hj;cases hj
   .simp[Ob.refs,Ag,V.refs]at hj;subst hj;simp
  have hf:=H6 qY;exact qa _ _ ⟨rfl,⟨_,qY⟩,by simp,rfl,rfl,rfl,by rw[hf];simp[V.refs],by rw[hf];simp[V.refs],by rw[hf];simp[V.refs],D3,by simp[V.refs]⟩
 rintro _ s ⟨rfl,pw⟩;refine Iy (fun e s=>∃ n:Nat,(2<=n/\n<=4)/\e=[(2,.ptr 0 0 0),(3,.ptr 2 0 0),(4,.ptr 4 0 0),(5,iV (n:Int))]/\PW s .nils []) ?_ ?_
 .intro k' qa;obtain⟨_,_,_,_,_,_,_,m1,-⟩:=Abl pw;obtain⟨uH,hk⟩:=pw.hk;obtain⟨r,s2,q2,h2,w2,l2,r2,m2⟩:=Rj hk 3 3 rfl AA;have en:IntKind.i64.wrap (2+(r:Int))=((2+r:Nat):Int):=by rw[Cm AA];omega
  simp only[go_sem,m1];refine Aa q2 ?_;simp only[go_sem,en];exact qa _ _ ⟨2+r,by omega,rfl,Ahf pw h2 w2⟩
 clear pw s;rintro _ s ⟨n,hn,rfl,pw⟩;refine Iy (fun e s=>e=[(2,.ptr 0 0 0),(3,.ptr 2 0 0),(4,.ptr 4 0 0),(5,iV (n:Int)),(6,.lst 1 [[.str [109,97,105,110]],[.str [116,49]],[.str [116,50]],[.str [116,51]]])]/\PW s .nils []) ?_ ?_
 .intro k' qa;simp only[go_sem];exact qa _ _ ⟨rfl,pw⟩
 clear pw s;rintro _ s ⟨rfl,pw⟩;refine Iy (fun e s=>(∃ i:Nat,e=[(2,.ptr 0 0 0),(3,.ptr 2 0 0),(4,.ptr 4 0 0),(5,iV (n:Int)),(6,.lst 1 [[.str [109,97,105,110]],[.str [116,49]],[.str [116,50]],[.str [116,51]]]),(7,iV (i:Int))])/\∃ u2 L,PW s u2 L/\(∀ t∈L,Sm t)/\L.length<=5/\L≠[]/\(L.map fun t=>t.nm).Nodup) ?_ ?_
 .intro k' qa;simp only[go_sem];refine Bk (α:=Nat × St × V × List Tp) (fun a=>n - a.1) (fun a=>[(2,.ptr 0 0 0),(3,.ptr 2 0 0),(4,.ptr 4 0 0),(5,iV (n:Int)),(6,.lst 1 [[.str [109,97,105,110]],[.str [116,49]],[.str [116,50]],[.str [116,51]]]),(7,iV (a.1:Int))]) (fun a=>a.2.1) (fun a=>a.1<=n/\PW a.2.1 a.2.2.1 a.2.2.2/\(∀ t∈a.2.2.2,Sm t)/\a.2.2.2.length=a.1/\(a.2.2.2.map fun t=>t.nm)=nml.take a.1) ?_ (0,s,.nils,[]) ⟨Ax _,pw,(fun d hd=>by cases hd),rfl,rfl⟩;clear pw s;rintro⟨i,s,u2,L⟩ ⟨hi,pw,hL,qm,qn⟩ ih;simp only at hi pw hL qm qn ih;refine Bd Bol ?_;rcases Bh i n with h' | h';rotate_left
  .simp only[go_sem,Bl h'];exact qa _ _ ⟨⟨i,rfl⟩,u2,L,pw,hL,by omega,(fun e=>by rw[e]at qm;simp at qm;omega),Bly qn⟩
  obtain⟨nm,qJ,qI⟩:=Aag [[109,97,105,110],[116,49],[116,50],[116,51]] AD (j:=i) AQ;simp only[Aw,B0]at qJ;refine Iy (fun e s'=>e=[(2,.ptr 0 0 0),(3,.ptr 2 0 0),(4,.ptr 4 0 0),(5,iV (n:Int)),(6,.lst 1 [[.str [109,97,105,110]],[.str [116,49]],[.str [116,50]],[.str [116,51]]]),(7,iV (i:Int))]/\s'=s) ?_ ?_
  .intro k' qa;simp only[go_sem,Az h'];exact qa _ _ ⟨rfl,rfl⟩
  rintro _ s' ⟨rfl,e0⟩;rw[e0];clear e0 s';refine Iy (fun e s'=>(e=[(2,.ptr 0 0 0),(3,.ptr 2 0 0),(4,.ptr 4 0 0),(5,iV (n:Int)),(6,.lst 1 [[.str [109,97,105,110]],[.str [116,49]],[.str [116,50]],[.str [116,51]]]),(7,iV (i:Int))]\/∃ v,e=[(2,.ptr 0 0 0),(3,.ptr 2 0 0),(4,.ptr 4 0 0),(5,iV (n:Int)),(6,.lst 1 [[.str [109,97,105,110]],[.str [116,49]],[.str [116,50]],[.str [116,51]]]),(7,iV (i:Int)),(9,v)])/\∃ u' t,PW s' u' (L++[t])/\Sm t/\t.nm=nm) ?_ ?_;rotate_left
  .clear pw qI;rintro e s ⟨he,u',t,pw,ht,jG⟩;have hN:=Bbi qn qJ jG;have jm:∀ x∈L++[t],Sm x:=fun x hx=>(Cu.1 hx).elim (hL x) fun hx=>by rw[Gm.1 hx];exact ht
   rcases he with rfl | ⟨v,rfl⟩
   all_goals
    simp only[go_sem,A2 (show i<9223372036854775807 by omega)];exact Av (ih (i+1,s,u',L++[t]) AP ⟨h',pw,jm,by rw[Aq,Q6,qm],hN⟩) rfl
  clear ih qa k';intro k' qa;rw[Az8];refine Iy (fun e s'=>e=[(2,.ptr 0 0 0),(3,.ptr 2 0 0),(4,.ptr 4 0 0),(5,iV (n:Int)),(6,.lst 1 [[.str [109,97,105,110]],[.str [116,49]],[.str [116,50]],[.str [116,51]]]),(7,iV (i:Int))]/\PW s' u2 L) ?_ ?_
  .intro k2 qb;obtain⟨_,_,_,_,_,_,_,m1,ho⟩:=Abl pw;simp only[go_sem,m1];exact qb _ _ ⟨rfl,ho _ _ _ _ _ _⟩
  clear pw s;rintro _ s0 ⟨rfl,pw⟩;refine Iy (fun e s'=>e=[(2,.ptr 0 0 0),(3,.ptr 2 0 0),(4,.ptr 4 0 0),(5,iV (n:Int)),(6,.lst 1 [[.str [109,97,105,110]],[.str [116,49]],[.str [116,50]],[.str [116,51]]]),(7,iV (i:Int)),(8,.ptr s0.length 0 0)]/\TH s0 s' nm u2 L .nils []) ?_ ?_
  .intro k2 qb;simp only[go_sem,qJ];exact qb _ _ ⟨rfl,Bk4 pw nm⟩
  clear pw;rintro _ s ⟨rfl,th⟩;refine Iy (fun e s'=>(e=[(2,.ptr 0 0 0),(3,.ptr 2 0 0),(4,.ptr 4 0 0),(5,iV (n:Int)),(6,.lst 1 [[.str [109,97,105,110]],[.str [116,49]],[.str [116,50]],[.str [116,51]]]),(7,iV (i:Int)),(8,.ptr s0.length 0 0)]\/∃ v,e=[(2,.ptr 0 0 0),(3,.ptr 2 0 0),(4,.ptr 4 0 0),(5,iV (n:Int)),(6,.lst 1 [[.str [109,97,105,110]],[.str [116,49]],[.str [116,50]],[.str [116,51]]]),(7,iV (i:Int)),(8,.ptr s0.length 0 0),(9,v)])/\∃ uB B,TH s0 s' nm u2 L uB B/\(∀ x∈B,SM 2 x)/\B.length<=3) ?_ ?_
  .intro k2 qb;by_cases qE:i=0;rotate_left
   .have f1:((i:Int)==0)=false:=by simp;omega
    simp only[go_sem,f1];exact qb _ _ ⟨.inl rfl,_,_,th,(fun x hx=>by cases hx),by simp⟩
   .have f1:((i:Int)==0)=true:=by simp[qE]
    simp only[go_sem,f1];refine Bk (α:=Nat × St × V × List Sp) (fun a=>n - a.1) (fun a=>[(2,.ptr 0 0 0),(3,.ptr 2 0 0),(4,.ptr 4 0 0),(5,iV (n:Int)),(6,.lst 1 [[.str [109,97,105,110]],[.str [116,49]],[.str [116,50]],[.str [116,51]]]),(7,iV (i:Int)),(8,.ptr s0.length 0 0),(9,iV (a.1:Int))]) (fun a=>a.2.1) (fun a=>(1<=a.1/\a.1<=n)/\TH s0 a.2.1 nm u2 L a.2.2.1 a.2.2.2/\(∀ x∈a.2.2.2,SM 2 x)/\a.2.2.2.length+1=a.1) ?_ (1,s,.nils,[]) ⟨by simp only;omega,th,(fun d hd=>by cases hd),rfl⟩;clear th s;rintro⟨j,s,uB,B⟩ ⟨hj,th,hB,qd⟩ ih;simp only at hj th hB qd ih;refine Bd Bok ?_;rcases Bh j n with h3 | h3;rotate_left
    .simp only[go_sem,Bl h3];exact qb _ _ ⟨.inr ⟨_,rfl⟩,uB,B,th,hB,by omega⟩
    obtain⟨nj,qT,qH⟩:=Aag [[109,97,105,110],[116,49],[116,50],[116,51]] AD (j:=j) AQ;simp only[Aw,B0]at qT;obtain⟨u',s',ha,⟨c1,c2,c3⟩,r',-,th'⟩:=Amz th (y:=.lst 1 [(Mz 12 nj).row]) (C:=[Mz 12 nj]) rfl AQ;rw[Yb]at ha;have r1:=th.r;simp only[go_sem,Az h3];refine Af AD ?_;simp only[go_sem,r1,qT];refine Bb ?_;simp only[go_sem,ha];refine Bb ?_;simp only[go_sem,r',c1,c2,c3];refine Bb ?_;simp only[go_sem,A2 (show j<9223372036854775807 by omega)];refine Av (ih (j+1,_,u',B++[Mz 12 nj]) AP ⟨by simp only;omega,th',fun x hx=>?_,by rw[Aq,Q6,qd]⟩) rfl;rcases Cu.1 hx with hx | hx
    .exact hB x hx
    .rw[Gm.1 hx];exact Ab4 AA qH
  clear th s;rintro e s ⟨he,uB,B,th,hB,qd⟩;refine Iy (fun e s'=>(e=[(2,.ptr 0 0 0),(3,.ptr 2 0 0),(4,.ptr 4 0 0),(5,iV (n:Int)),(6,.lst 1 [[.str [109,97,105,110]],[.str [116,49]],[.str [116,50]],[.str [116,51]]]),(7,iV (i:Int)),(8,.ptr s0.length 0 0)]\/∃ v,e=[(2,.ptr 0 0 0),(3,.ptr 2 0 0),(4,.ptr 4 0 0),(5,iV (n:Int)),(6,.lst 1 [[.str [109,97,105,110]],[.str [116,49]],[.str [116,50]],[.str [116,51]]]),(7,iV (i:Int)),(8,.ptr s0.length 0 0),(9,v)])/\∃ uB B,TH s0 s' nm u2 L uB B/\(∀ x∈B,SM 2 x)/\B.length<=6) ?_ ?_
  .intro k2 qb;obtain⟨_,_,_,_,_,_,_,m1,-⟩:=Abl th.pw;obtain⟨uH,hk⟩:=th.pw.hk;obtain⟨r,s2,q2,h2,w2,l2,rb,ja⟩:=Rj hk 3 3 rfl AA;have qk:=Anz th h2 w2;have er:IntKind.i64.wrap (1+(r:Int))=((1+r:Nat):Int):=by rw[Cm AA];omega
   obtain⟨u,s3,q3,L3,kg,hO,qP,jo,h3,w3⟩:=(Ar8 2 AA 2 AA).2 s2 2 1 uH [] h2 AE (1+r) AA;have qO:=Anz qk h3 w3;obtain⟨u',s',ha,⟨c1,c2,c3⟩,r',qZ,th'⟩:=Amz qO (C:=L3) (Bk3 hO.1) AA;have m2:=ja.trans m1;obtain⟨_,_,_,_,_,_,_,m3,-⟩:=Abl qO.pw;have m4:=qZ.trans m3;have r1:=th.r;have r2:=qk.r;have r3:=qO.r;have q3:Bw TT PT 35 [.ptr 2 0 0,iV 2,iV ((1+r:Nat):Int)] s2 u s3:=q3;rcases he with rfl | ⟨v,rfl⟩
   all_goals
    refine Af AD ?_;simp only[go_sem,r1,m1];refine Ia q2 ?_;simp only[go_sem,er];refine Ia q3 ?_;simp only[go_sem,ha];refine Bb ?_;simp only[go_sem,r',c1,c2,c3];refine Bb ?_;simp only[go_sem]
   .exact qb _ _ ⟨.inl rfl,_,_,th',fun x hx=>(Cu.1 hx).elim (hB x) (qP x),by rw[Aq];omega⟩
   .exact qb _ _ ⟨.inr ⟨_,rfl⟩,_,_,th',fun x hx=>(Cu.1 hx).elim (hB x) (qP x),by rw[Aq];omega⟩
  clear th hB qd he uB B s e;rintro e s ⟨he,uB,B,th,hB,qd⟩;refine Iy (fun e s'=>(e=[(2,.ptr 0 0 0),(3,.ptr 2 0 0),(4,.ptr 4 0 0),(5,iV (n:Int)),(6,.lst 1 [[.str [109,97,105,110]],[.str [116,49]],[.str [116,50]],[.str [116,51]]]),(7,iV (i:Int)),(8,.ptr s0.length 0 0)]\/∃ v,e=[(2,.ptr 0 0 0),(3,.ptr 2 0 0),(4,.ptr 4 0 0),(5,iV (n:Int)),(6,.lst 1 [[.str [109,97,105,110]],[.str [116,49]],[.str [116,50]],[.str [116,51]]]),(7,iV (i:Int)),(8,.ptr s0.length 0 0),(9,v)])/\∃ uB B,TH s0 s' nm u2 L uB B/\(∀ x∈B,SM 2 x)/\B.length<=7) ?_ ?_
  .intro k2 qb;by_cases qE:i=0;rotate_left
   .have f1:((i:Int)==0)=false:=by simp;omega
    rcases he with rfl | ⟨v,rfl⟩
    all_goals simp only[go_sem,f1]
    .exact qb _ _ ⟨.inl rfl,_,_,th,hB,by omega⟩
    .exact qb _ _ ⟨.inr ⟨_,rfl⟩,_,_,th,hB,by omega⟩
   have f1:((i:Int)==0)=true:=by simp[qE]
   obtain⟨_,_,_,_,_,_,_,m1,-⟩:=Abl th.pw;obtain⟨uH,hk⟩:=th.pw.hk;obtain⟨r,s2,q2,h2,w2,l2,rb,ja⟩:=Rj hk 3 3 rfl AA;have qk:=Anz th h2 w2;by_cases jD:r=2
   .subst jD;obtain⟨u',s',ha,⟨c1,c2,c3⟩,r',qZ,th'⟩:=Amz qk (y:=.lst 1 [(Mz 13 [116,49]).row]) (C:=[Mz 13 [116,49]]) rfl AQ;rw[Yb]at ha;have r2:=qk.r;rcases he with rfl | ⟨v,rfl⟩
    all_goals
     simp only[go_sem,f1,m1];refine Aa q2 ?_;simp only[go_sem,C2,Int.reduceBEq];refine Af AD ?_;simp only[go_sem,r2];refine Bb ?_;simp only[go_sem,ha];refine Bb ?_;simp only[go_sem,r',c1,c2,c3];refine Bb ?_;simp only[go_sem]
    .exact qb _ _ ⟨.inl rfl,_,_,th',fun x hx=>(Cu.1 hx).elim (hB x) fun hx=>by rw[Gm.1 hx];exact Ab4 AA (H1 AD),by rw[Aq,Q6];omega⟩
    .exact qb _ _ ⟨.inr ⟨_,rfl⟩,_,_,th',fun x hx=>(Cu.1 hx).elim (hB x) fun hx=>by rw[Gm.1 hx];exact Ab4 AA (H1 AD),by rw[Aq,Q6];omega⟩
   .have fr:((r:Int)==2)=false:=by simp;omega
    rcases he with rfl | ⟨v,rfl⟩
    all_goals
     simp only[go_sem,f1,m1];refine Aa q2 ?_;simp only[go_sem,fr]
    .exact qb _ _ ⟨.inl rfl,_,_,qk,hB,by omega⟩
    .exact qb _ _ ⟨.inr ⟨_,rfl⟩,_,_,qk,hB,by omega⟩
  clear th hB qd he uB B s e;rintro e s ⟨he,uB,B,th,hB,qd⟩;obtain⟨s1,u',s2,e1,e2,⟨c1,c2,c3⟩,p2,jb⟩:=Bk5 th AA;have r1:=th.r;have p1:=th.pw.p;have jH:V.cellB uB=true:=Cg th.g;rcases he with rfl | ⟨v,rfl⟩
  all_goals
   simp only[go_sem,r1,p1,jH,e1,e2,p2,c1,c2,c3]
  .exact qa _ _ ⟨.inl rfl,u',_,jb,⟨qI,rfl,hB,by simp only;omega⟩,rfl⟩
  .exact qa _ _ ⟨.inr ⟨_,rfl⟩,u',_,jb,⟨qI,rfl,hB,by simp only;omega⟩,rfl⟩
 clear pw s;rintro _ s ⟨⟨i,rfl⟩,u2,L,pw,hL,qm,jn,qn⟩;obtain⟨qq,jE⟩:=Ax0 (z1:=true) (t1:=0) (z2:=true) (t2:=0) hL qm jn qn;obtain⟨o1,c1⟩:=Azw pw.d;have o2:=Mj pw.g AA (Va L) (Aec L);have c2:=Cg pw.g;obtain⟨_,q4,e4,l4,rfl⟩:=Baf (C8 qq.blk AA) qq.ln jE;have p1:=pw.p;have z1:=pw.z;have qN:Gp.row ⟨true,0,declsL,true,0,L⟩=[SL true 0 (declsL.map Dp.row),SL true 0 (L.map Tp.row)]:=rfl;rw[qN]at q4;simp only[go_sem,p1];refine A0c (.cons (Tf (.cons o1 (.cons o2 .nil))) .nil) q4 AK ?_;by_cases h0:e4=0
 .have f1:(e4==0)=true:=by simp[h0]
  simp only[go_sem,bne,f1,Ay,p1,z1,c1,c2];have z5:(s.set 0 (.row [.sl 3 0 0 9 6 true,u2] 29 0 0))[0]?=some (.row [.sl 3 0 0 9 6 true,u2] 29 0 0):=Cr (by have:=pw.l5;omega);refine⟨_,_,true,0,true,0,declsL,L,Wh z5 rfl rfl,Azw (by rw[Ce AA];exact pw.d),⟨?_,c2⟩,qq⟩;exact Mj (Jq pw.g fun j hj=>Ce fun e=>by have:=(Dl pw.g j hj).1;omega) AA (Va L) (Aec L)
 .have f1:(e4==0)=false:=by simp[h0]
  have jd:=W8 [120] (Ge 1);simp only[Ge,SL,B0,and_self,true_and,if_true]at jd;have jZ:=pw.l5;simp only[go_sem,bne,f1,A1];refine Jg (Aqp _) ?_;simp only[go_sem];refine Ab (Ahx _) AK ?_;simp only[go_sem];refine Ab jd AK ?_;have z6:=By (l:=([.row (declsL.map Dp.row).flatten 80 0 0]:St)) z1;simp only[go_sem,z6];have z5:((s++([.row (declsL.map Dp.row).flatten 80 0 0]:St)).set 0 (.row [.sl s.length 0 0 9 6 true,.lst 1 [[.str [109,97,105,110],iV 0,.lst 1 [[.str [97]],[.str [98]]],.lst 1 [[iV 1,iV 0,.str [120],.str [],.nils,iV 1,iV 1,.str [],.nils,.nils,.nils]]]]] 29 0 0))[0]?=some (.row [.sl s.length 0 0 9 6 true,.lst 1 [[.str [109,97,105,110],iV 0,.lst 1 [[.str [97]],[.str [98]]],.lst 1 [[iV 1,iV 0,.str [120],.str [],.nils,iV 1,iV 1,.str [],.nils,.nils,.nils]]]]] 29 0 0):=Cr AE;have hM:Sm ⟨[109,97,105,110],0,true,1,[[97],[98]],true,1,[My [120] (Ge 1)]⟩:=⟨H1 AD,rfl,fun s hs=>by rw[Gm.1 hs];exact An0 (H1 AD) Bl0,by simp⟩;obtain⟨qK,-⟩:=Ax0 (z1:=true) (t1:=0) (z2:=true) (t2:=1) (L:=[⟨[109,97,105,110],0,true,1,[[97],[98]],true,1,[My [120] (Ge 1)]⟩]) (fun t ht=>by rw[Gm.1 ht];exact hM) AE AE AE;refine⟨.sl s.length 0 0 9 6 true,.lst 1 [[.str [109,97,105,110],iV 0,.lst 1 [[.str [97]],[.str [98]]],.lst 1 [[iV 1,iV 0,.str [120],.str [],.nils,iV 1,iV 1,.str [],.nils,.nils,.nils]]]],true,0,true,1,declsL,[⟨[109,97,105,110],0,true,1,[[97],[98]],true,1,[My [120] (Ge 1)]⟩],Wh z5 rfl rfl,⟨?_,rfl⟩,⟨?_,rfl⟩,qK⟩
  .have h3:(s++([.row (declsL.map Dp.row).flatten 80 0 0]:St))[s.length]?=some (.row (declsL.map Dp.row).flatten 80 0 0):=by simp
   exact Rw (xs:=declsL.map Dp.row) (by rw[Ce AA];exact h3) AA (Aeb declsL) (Ajv declsL)
  .have hr:SL true 1 ([(⟨[109,97,105,110],0,true,1,[[97],[98]],true,1,[My [120] (Ge 1)]⟩:Tp)].map Tp.row)=.lst 1 [[.str [109,97,105,110],iV 0,.lst 1 [[.str [97]],[.str [98]]],.lst 1 [[iV 1,iV 0,.str [120],.str [],.nils,iV 1,iV 1,.str [],.nils,.nils,.nils]]]]:=by
    simp only[Aw,B0,Tp.row,Agq];rfl
   rw[hr];exact Fk rfl
def Bbj{g:V}{kill:List Nat}{x y R:AC}{i1 i2:Nat}{k:List It}{e:Env}{σ:St}{Q:Env->St->Prop}(P P2:Env->St->Prop)
  (h1:∀ R' k',(∀ e σ,P e σ->W TT PT (.c R'::.b i2::k') e σ Q)->(∀ e σ,P2 e σ->W TT PT k' e σ Q)->WC TT PT g kill x y (.b i1::.c R'::.b i2::k') e σ Q)
  (h2:∀ e σ,P e σ->W TT PT (.c R::.b i2::k) e σ Q) (h3:∀ e σ,P2 e σ->W TT PT k e σ Q):WC TT PT g kill x y (.b i1::.c R::.b i2::k) e σ Q:=h1 R k h2 h3
structure EW (p:Gp) (s:St) (u:V) (T:List Tp):Prop where
 z:s[1]?=some (.row [.nils,.nils] 29 0 0)
 o:s[2]?=some (.row [SL p.dz p.dt (p.decls.map Dp.row),u] 29 0 0)
 t:TS s 3
 g:GW s 4 84 4 u (T.map Tp.row)
def Am8{p:Gp}{s:St}{u:V}{T:List Tp}(h:EW p s u T):4<=s.length:=Pm h.t
def Abr{p:Gp}{s s':St}{u:V}{T:List Tp}(h:EW p s u T)(ht:TS s' 3)(hk:∀ j,j<s.length->j≠3->(j=1\/j=2\/j∈u.refs)->s'[j]?=s[j]?):EW p s' u T:=by
 have hl:=Am8 h
 exact⟨(hk 1 AA AA (.inl rfl)).trans h.z,(hk 2 AA AA (.inr (.inl rfl))).trans h.o,ht,Jq h.g fun j hj=>by
  obtain⟨a,b⟩:=Dl h.g j hj
  grind⟩
def Aa6{s s':St}{b:Nat}(h:TS s b)(hk:s'[b]?=s[b]?):TS s' b:=by
 obtain⟨z,t,l,a,h1,h2⟩:=h;exact⟨z,t,l,a,hk.trans h1,h2⟩
structure EX (p:Gp) (n:Nat) (x:Tp) (s:St) (u:V) (T:List Tp) (w:V) (B:List Sp):Prop where
 ew:EW p s u T
 n4:4<=n
 r:s[n]?=some (tO x)
 u:∀ j∈u.refs,j<n
 g:GW s 11 98 (n+1) w (B.map Sp.row)
def Abs{p:Gp}{n:Nat}{x:Tp}{s:St}{u w:V}{T:List Tp}{B:List Sp}(h:EX p n x s u T w B):n<s.length:=(Ao.1 h.r).1
def Ax1{p:Gp}{n:Nat}{x:Tp}{s:St}{u w:V}{T:List Tp}{B:List Sp}(h:EX p n x s u T w B)(l:St):EX p n x (s++l) u T w B:=
 ⟨Abr h.ew (Aa6 h.ew.t (Es (Pm h.ew.t))) fun j hj _ _=>Es hj,h.n4,By h.r,h.u,Ix h.g⟩
def Bgs{p:Gp}{n:Nat}{x:Tp}{s s':St}{u w:V}{T:List Tp}{B:List Sp}(h:EX p n x s u T w B)(hw:TW s s' 3):EX p n x s' u T w B:=by
 have hn:=Abs h;refine⟨Abr h.ew hw.2.2.1 fun j hj h3 _=>hw.2.1 j hj h3,h.n4,(hw.2.1 n hn (by have:=h.n4;omega)).trans h.r,h.u,Jq h.g fun j hj=>?_⟩;obtain⟨a,b⟩:=Dl h.g j hj;exact hw.2.1 j b (by have:=h.n4;omega)
def Azx{p:Gp}{n:Nat}{x:Tp}{s:St}{u w:V}{T:List Tp}{B:List Sp}(h:EX p n x s u T w B)(y:Sp)(hb:B.length<=10000000):
  ∃ w' s',Dt 176 (11,98) w (.lst 1 [y.row]) s=some (w',s')/\EX p n x s' u T w' (B++[y])/\w'.cellB=true/\(∀ j,j<s.length->j ∉ w.refs->s'[j]?=s[j]?)/\∀ j∈w'.refs,j∈w.refs\/s.length<=j:=by
 have hn:=Abs h;have h4:=h.n4;obtain⟨w',s',a,g',l',k',r',-⟩:=Pa (bytes:=176) (y:=.lst 1 [y.row]) (ys:=[y].map Sp.row) h.g AA rfl AA (Vg B) (Vg [y]) (Akx [y]) (by grind);rw[<-Fz]at g';have hw:∀ j,j<=n->j ∉ w.refs:=fun j hj e=>by have:=(Dl h.g j e).1;omega
 refine⟨w',s',a,⟨Abr h.ew (Aa6 h.ew.t (k' 3 AA (hw 3 AA))) fun j hj _ qh=>k' j hj ?_,h4,(k' n hn (hw n (Aj _))).trans h.r,h.u,g'⟩,Cg g',k',r'⟩;rcases qh with rfl | rfl | qh
 .grind
 .grind
 .exact hw j (by have:=h.u j qh;omega)
def Bbk{p:Gp}{n:Nat}{x:Tp}{s:St}{u w:V}{T:List Tp}{B:List Sp}(h:EX p n x s u T w B)(y:Sp)(hb:B.length<=10000000):
  ∃ s1 w' s',Dt 176 (11,98) (.lst 1 []) (.lst 1 [y.row]) s=some (.sl s.length 0 0 1 11 true,s1)/\Dt 176 (11,98) (.sl s.length 0 0 1 11 true) w s1=some (w',s')/\EX p n x s' u T w' (y::B)/\w'.cellB=true:=by
 have hn:=Abs h;have h4:=h.n4;have hy:=O3 y
 have e1:Dt 176 (11,98) (.lst 1 []) (.lst 1 [y.row]) s=some (.sl s.length 0 0 1 11 true,s++[.row y.row 98 0 0]):=by
  simp[Dt,Eu,Jz,hy]
 have h1:=Ax1 h [.row y.row 98 0 0];have g1:GW (s++([.row y.row 98 0 0]:St)) 11 98 (n+1) (.sl s.length 0 0 1 11 true) ([y].map Sp.row):=.inr ⟨by simp,s.length,0,rfl,by simp,by omega⟩;obtain⟨w',s',a,g',l',k',r',-⟩:=Pa (bytes:=176) (y:=w) (ys:=B.map Sp.row) g1 (by grind) (Bk2 h1.g (Vg B)) AA (Vg [y]) (Vg B) (Akx B) (by grind);rw[<-Fz]at g';have hw:∀ j,j<s.length->j ∉ (V.sl s.length 0 0 1 11 true).refs:=fun j hj e=>by grind[V.refs]
 have kc:(s++([.row y.row 98 0 0]:St)).length=s.length+1:=by simp
 refine⟨_,w',s',e1,a,⟨Abr h1.ew (Aa6 h1.ew.t (k' 3 AA (hw 3 AA))) fun j hj _ qh=>k' j hj ?_,h4,(k' n AA (hw n hn)).trans h1.r,h.u,g'⟩,Cg g'⟩;rcases qh with rfl | rfl | qh
 .grind
 .grind
 .exact hw j (by have:=h.u j qh;omega)
def Bl1{p:Gp}{n:Nat}{x:Tp}{s:St}{u w:V}{T:List Tp}{B:List Sp}(h:EX p n x s u T w B)(hT:T.length<=1000000):
  ∃ s1 u' s2,Qp 4 1 s [.str x.nm,iV x.line,SL x.lz x.lt (x.locals.map fun s=>[V.str s]),w]=some (.lst 1 [[.str x.nm,iV x.line,SL x.lz x.lt (x.locals.map fun s=>[V.str s]),SL true 0 (B.map Sp.row)]],s1) /\
   Dt 72 (4,84) u (.lst 1 [[.str x.nm,iV x.line,SL x.lz x.lt (x.locals.map fun s=>[V.str s]),SL true 0 (B.map Sp.row)]]) s1=some (u',s2)/\u'.cellB=true/\s2[2]?=some (.row [SL p.dz p.dt (p.decls.map Dp.row),u] 29 0 0) /\
   EW p (s2.set 2 (.row [SL p.dz p.dt (p.decls.map Dp.row),u'] 29 0 0)) u' (T++[⟨x.nm,x.line,x.lz,x.lt,x.locals,true,0,B⟩]):=by
 have hn:=Abs h;have h4:=h.n4;obtain⟨s1,e1,l1,f1,-⟩:=Ar0 h.g (loc:=SL x.lz x.lt (x.locals.map fun s=>[V.str s])) (Hn ..) x.nm x.line;have hw:∀ j,j<=n->j ∉ w.refs:=fun j hj e=>by have:=(Dl h.g j e).1;omega
 have hx:Tp.row ⟨x.nm,x.line,x.lz,x.lt,x.locals,true,0,B⟩=[.str x.nm,iV x.line,SL x.lz x.lt (x.locals.map fun s=>[V.str s]),SL true 0 (B.map Sp.row)]:=rfl;have g1:GW s1 4 84 4 u (T.map Tp.row):=Jq h.ew.g fun i hi=>f1 i (hw i (by have:=h.u i hi;omega))
 obtain⟨u',s2,e2,g2,l2,k2,r2,-⟩:=Pa (bytes:=72) (y:=.lst 1 [Tp.row ⟨x.nm,x.line,x.lz,x.lt,x.locals,true,0,B⟩]) (ys:=[Tp.row ⟨x.nm,x.line,x.lz,x.lt,x.locals,true,0,B⟩]) g1 AA rfl AA (Va T) (by simp;rfl) (fun r hr=>by rw[Gm.1 hr,hx];simp only[B5,Db,Hn];rfl) (by grind);have hu:∀ j,j<4->j ∉ u.refs:=fun j hj e=>by have:=(Dl h.ew.g j e).1;omega
 have kk:∀ j,j<4->s2[j]?=s[j]?:=fun j hj=>(k2 j AA (hu j hj)).trans (f1 j (hw j AA))
 refine⟨s1,u',s2,e1,e2,Cg g2,(kk 2 AA).trans h.ew.o,?_,Cr AA,?_,?_⟩
 .rw[Ce AA,kk 1 AA];exact h.ew.z
 .exact Aa6 h.ew.t ((Ce AA).trans (kk 3 AA))
 grind[Jq]
set_option maxHeartbeats 8000000 in
def Bgt{p:Gp}(hp:OKp p)(z:Bool)(t:Nat)(l:List UInt8)(hl:l.length<=9223372036854775807):∃ q:Gp,Fn TT PT 14 [.agg p.row,SL z t (B6 l)] (.agg q.row)/\q.decls=p.decls/\EdT p.thrs q.thrs:=by
 have qM:=Uf p;have qL:=F1 p;have jt:=hp.few;have jw:=Zn l;have jx:(p.thrs.map Tp.row).length=p.thrs.length:=Ar ..;have e1:min (l.length:Int) 60=((min l.length 60:Nat):Int):=by omega
 obtain⟨z2,t2,qo⟩:=Xd z t 1 (B6 l) .i64 (min l.length 60) AA;rw[show(B6 l).take (min l.length 60)=B6 (l.take (min l.length 60)) by grind[B6,List.map_take]]at qo;rw[qL]at qM ⊢;refine A03 T14 rfl ?_
 have w0:EW p [gO p,.row [.nils,.nils] 29 0 0,.row [SL p.dz p.dt (p.decls.map Dp.row),.nils] 29 0 0,.row [SL z2 t2 (B6 (l.take (min l.length 60))),iV 0] 89 0 0] .nils []:=
  ⟨rfl,rfl,⟨z2,t2,_,0,rfl,Ax _,by grind⟩,D3⟩
 simp only[go_sem,jw,e1,qo,jx];refine Bk (α:=Nat × St × V × List Tp) (fun a=>p.thrs.length - a.1) (fun a=>[(4,.ptr 1 0 0),(5,.ptr 2 0 0),(6,.ptr 3 0 0),(23,SL p.tz p.tt (p.thrs.map Tp.row)),(24,iV (p.thrs.length:Int)),(25,iV (a.1:Int))]) (fun a=>a.2.1) (fun a=>a.1<=p.thrs.length/\EW p a.2.1 a.2.2.1 a.2.2.2/\EdT (p.thrs.take a.1) a.2.2.2) ?_ (0,_,.nils,[]) ⟨Ax _,w0,.nil⟩;clear w0;rintro⟨i,s,u,T⟩ ⟨hi,ew,hT⟩ ih;simp only at hi ew hT ih;have jX:T.length=i:=by rw[(Al0 hT).2,Iq];omega
 refine Bd Bon ?_;rcases Bh i p.thrs.length with qp | qp;rotate_left
 .have qQ:i=p.thrs.length:=by omega
  rw[qQ,Dq]at hT;have ho:=ew.o;have hz:=ew.z;have qi:=Am8 ew;have hc:=Cg ew.g;obtain⟨qB,qC⟩:=Jj hc;simp only[go_sem,Bl qp,ho,hz,qB,qC,hc];have z5:(s.set 1 (.row [SL p.dz p.dt (p.decls.map Dp.row),u] 29 0 0))[1]?=some (.row [SL p.dz p.dt (p.decls.map Dp.row),u] 29 0 0):=Cr AA;refine⟨_,_,p.dz,p.dt,true,0,p.decls,T,Wh z5 rfl rfl,⟨Fk (Hn ..),S8 ..⟩,⟨?_,hc⟩,rfl,hT⟩;exact Mj (Jq ew.g fun j hj=>Ce fun e=>by have:=(Dl ew.g j hj).1;omega) AA (Va T) (Aec T)
 obtain⟨x,hx,-,jN⟩:=Br qp;have qw:=Ue x;have qu:(x.body.map Sp.row).length=x.body.length:=Ar ..;have kf:=hp.siz x jN;have ke:=Agm x.body;have i1:IntKind.i64.wrap ((i:Int)+1)=((i+1:Nat):Int):=A2 AA;have qi:=Am8 ew;obtain⟨s1,e1⟩:∃ s1:St,s1=s++[tO x]:=⟨_,rfl⟩
 have ex:EX p s.length x s1 u T .nils []:=by
  refine⟨Abr ew (Aa6 ew.t (by grind)) fun j hj _ _=>by grind,qi,by grind,fun j hj=>(Dl ew.g j hj).2,D3⟩
 have qV:=ex.r;simp only[go_sem,Az qp,Au,hx,qw];rw[<-e1];simp only[go_sem,qV,qu];generalize s.length=n at *;clear qV e1 qi ew;clear s;refine Bk (α:=Nat × St × V × List Sp) (fun a=>x.body.length - a.1) (fun a=>[(4,.ptr 1 0 0),(5,.ptr 2 0 0),(6,.ptr 3 0 0),(8,.ptr n 0 0),(9,a.2.2.1),(23,SL p.tz p.tt (p.thrs.map Tp.row)),(24,iV (p.thrs.length:Int)),(25,iV (i:Int)),(30,SL x.bz x.bt (x.body.map Sp.row)),(31,iV (x.body.length:Int)),(32,iV (a.1:Int))]) (fun a=>a.2.1) (fun a=>a.1<=x.body.length/\EX p n x a.2.1 u T a.2.2.1 a.2.2.2/\EdB x.body a.1 a.2.2.2) ?_ (0,s1,.nils,[]) ⟨Ax _,ex,Bap _⟩;clear ex;clear s1;rintro⟨k,s,w,B⟩ ⟨hk,ex,hB⟩ kh;simp only at hk ex hB kh;have qd:=hB.cnt;have qW:=Cg ex.g;refine Bd Bom ?_;rcases Bh k x.body.length with qa | qa;rotate_left
 .have qb:k=x.body.length:=by omega
  rw[qb]at hB;obtain⟨s1,u',s2,a1,a2,hc,a3,jg⟩:=Bl1 ex AA;obtain⟨qB,qC⟩:=Jj hc;obtain⟨jK,jL⟩:=Jj qW;have hr:=ex.r;have ho:=ex.ew.o;simp only[go_sem,Bl qa,hr,ho,jK,jL,qW,a1,a2,a3,qB,qC,hc,i1];refine Av (ih (i+1,_,u',_) AA ⟨qp,jg,?_⟩) rfl;have jF:p.thrs.take (i+1)=p.thrs.take i++[x]:=by rw[M3,hx];rfl
  simp only[jF];exact Axj hT rfl rfl hB
 obtain⟨y,hy,-,-⟩:=Br qa;have jP:x.body[k]=y:=(Ao.1 hy).2;have b0:=Baq hB qa;have b1:=Axi hB qa;have b2:=Bfo hB qa;have b3:=A6s hB qa;rw[jP]at b1 b2 b3;have qe:=Fl y;have k1:IntKind.i64.wrap ((k:Int)+1)=((k+1:Nat):Int):=A2 AA;have qt:=Ax1 ex [.row y.row 98 0 0];obtain⟨s1,e1⟩:∃ s1:St,s1=s++[.row y.row 98 0 0]:=⟨_,rfl⟩;have r1:s1[s.length]?=some (.row y.row 98 0 0):=by rw[e1];simp
 rw[<-e1]at qt;obtain⟨r,s2,q2,tw,l2,-,-,-⟩:=Aug qt.ew.t 6 AA;have qf:=Bgs qt tw;have jM:s.length ∉ w.refs:=fun e=>by have:=(Dl ex.g _ e).2;omega
 have jz:s.length≠3:=by have:=Abs ex;have:=ex.n4;omega
 have r2:s2[s.length]?=some (.row y.row 98 0 0):=(tw.2.1 _ (Ao.1 r1).1 jz).trans r1;rw[qe]at e1;have jc:Bw TT PT 34 [.ptr 3 0 0,iV 6] s1 (iV (r:Int)) s2:=q2;simp only[go_sem,Az qa,Au,hy,qe];rw[<-e1];refine Aa jc ?_;simp only[go_sem];generalize s.length=m at *;clear q2 jc r1 e1 qt tw l2 ex;clear s1;clear s;refine Bbj (fun e s'=>∃ w' B' X,e=(4,.ptr 1 0 0)::(5,.ptr 2 0 0)::(6,.ptr 3 0 0)::(8,.ptr n 0 0)::(9,w')::(23,SL p.tz p.tt (p.thrs.map Tp.row))::(24,iV (p.thrs.length:Int))::(25,iV (i:Int))::(30,SL x.bz x.bt (x.body.map Sp.row))::(31,iV (x.body.length:Int))::(32,iV (k:Int))::(11,.ptr m 0 0)::X/\EX p n x s' u T w' B'/\EdB x.body (k+1) (B'++[y])/\s'[m]?=some (.row y.row 98 0 0)/\B'.length<=3000000) (fun e s'=>∃ w' B' X,e=(4,.ptr 1 0 0)::(5,.ptr 2 0 0)::(6,.ptr 3 0 0)::(8,.ptr n 0 0)::(9,w')::(23,SL p.tz p.tt (p.thrs.map Tp.row))::(24,iV (p.thrs.length:Int))::(25,iV (i:Int))::(30,SL x.bz x.bt (x.body.map Sp.row))::(31,iV (x.body.length:Int))::(32,iV (k:Int))::X/\EX p n x s' u T w' B'/\EdB x.body (k+1) B') ?_ ?_ ?_;rotate_left
 .rintro _ s ⟨w',B',X,rfl,ex,qz,r3,qd⟩;obtain⟨w2,s2,a1,qf,hc,-,-⟩:=Azx ex y AA;rw[qe]at r3 a1;simp only[go_sem,r3,a1,k1];exact Av (kh (k+1,s2,w2,B'++[y]) AA ⟨qa,qf,qz⟩) rfl
 .rintro _ s ⟨w',B',X,rfl,ex,qz⟩;simp only[go_sem,k1];exact Av (kh (k+1,s,w',B') AA ⟨qa,ex,qz⟩) rfl
 intro R' k' hA hC;rw[qe]at r2;have one:∀ X,W TT PT (.c R'::.b 3::k') ((4,.ptr 1 0 0)::(5,.ptr 2 0 0)::(6,.ptr 3 0 0)::(8,.ptr n 0 0)::(9,w)::(23,SL p.tz p.tt (p.thrs.map Tp.row))::(24,iV (p.thrs.length:Int))::(25,iV (i:Int))::(30,SL x.bz x.bt (x.body.map Sp.row))::(31,iV (x.body.length:Int))::(32,iV (k:Int))::(11,.ptr m 0 0)::X) s2 _:=fun X=>hA _ _ ⟨w,B,X,rfl,qf,b1,by grind,by omega⟩
 have jy:m<s2.length:=(Ao.1 r2).1
 have qG:Nh w=some (iV (B.length:Int)):=by
  have:=Bjb (Anj qf.g)
  rwa [Ar]at this
 by_cases h1:r=1
 .have f1:((r:Int)==1)=true:=by simp[h1]
  by_cases ho:y.op=12
  .have f2:(y.op != 12)=false:=by simp[ho]
   simp only[go_sem,f1,r2,f2];exact one _
  .have f2:(y.op != 12)=true:=by simp[ho]
   simp only[go_sem,f1,r2,f2];exact hC _ _ ⟨w,B,_,rfl,qf,b0⟩
 have f1:((r:Int)==1)=false:=by rw[beq_eq_false_iff_ne];omega
 by_cases h2:r=2
 .have f2:((r:Int)==2)=true:=by simp[h2]
  by_cases ho:y.op=1
  .have f3:(y.op==1)=true:=by simp[ho]
   obtain⟨w3,s3,a1,jh,jY,k3,-⟩:=Azx qf y AA;have r3:=(k3 m jy jM).trans r2;rw[qe]at a1;simp only[go_sem,f1,f2,r2,f3,a1];exact hA _ _ ⟨w3,B++[y],_,rfl,jh,b2,by rw[qe];exact r3,by rw[Aq,Q6];omega⟩
  .have f3:(y.op==1)=false:=by simp[ho]
   simp only[go_sem,f1,f2,r2,f3];exact one _
 have f2:((r:Int)==2)=false:=by rw[beq_eq_false_iff_ne];omega
 by_cases h3:r=3;rotate_left
 .have f3:((r:Int)==3)=false:=by rw[beq_eq_false_iff_ne];omega
  simp only[go_sem,f1,f2,f3];exact one _
 have f3:((r:Int)==3)=true:=by simp[h3]
 by_cases jU:0<B.length;rotate_left
 .have f4:(0<(B.length:Int))=False:=eq_false AA;simp only[go_sem,f1,f2,f3,qG,f4];exact one _
 have f4:(0<(B.length:Int))=True:=eq_true AA;by_cases ho:y.op=1
 .have f5:(y.op==1)=true:=by simp[ho]
  obtain⟨s3,w4,s4,a1,a2,ji,-⟩:=Bbk qf y AA;rw[qe]at a1;have f6:Qp 11 0 s2 []=some (.lst 1 [],s2):=Ayg rfl;simp only[go_sem,f1,f2,f3,qG,f4,r2,f5,f6,a1,a2];exact hC _ _ ⟨w4,y::B,_,rfl,ji,b3⟩
 .have f5:(y.op==1)=false:=by simp[ho]
  simp only[go_sem,f1,f2,f3,qG,f4,r2,f5];exact one _
def Bq0{p q:Gp}(hp:OKp p)(hd:q.decls=p.decls)(ht:EdT p.thrs q.thrs):CnG q/\(Ff q).length<=20000000000:=by
 obtain⟨a,b⟩:=Bfp hd ht (Amn hp.sh);exact⟨a,by have:=hp.len;omega⟩
theorem Aq1(nm:List UInt8):∀ (X P:List (List UInt8)),∀ r∈F2 nm P X,∃ nm ln n,r=J4 nm ln n
 | [],_,r,hr=>by cases hr
 | x::X,P,r,hr=>by
  rw[F2]at hr;rcases Bp.1 hr with rfl | hr
  .grind
  .exact Aq1 nm X _ r hr
def A4r{p:Gp}:∀ r∈Hr p,∃ nm ln n,r=J4 nm ln n:=fun r hr=>by
 obtain⟨l,hl,hr⟩:=Aio.1 hr;obtain⟨t,-,rfl⟩:=Cs.1 hl
 grind[Aq1]
def Ao0:List V:=[.str [],.str [],iV 0]
def Ah1(p:Gp)(i:Int):V:=if 0<=i/\i<(Hr p).length then .tup [.agg ((Hr p).getD i.toNat Ao0),.bool true] else .tup [.agg Ao0,.bool false]
set_option maxHeartbeats 1000000 in
def Bl2{p:Gp}(h:PX p)(i:Int):Fn TT PT 48 [.agg p.row,iV i] (Ah1 p i):=by
 have hk:=Auu h;have qM:=Uf p;have qL:=F1 p;rw[qL]at hk qM ⊢;refine Bg T48 rfl ?_;unfold Ah1;by_cases h0:i<0
 .rw[if_neg AA];have f1:(i<0)=True:=eq_true h0;simp only[go_sem];refine Ab hk AB ?_;simp only[go_sem,f1];exact Gt rfl
 have f1:(i<0)=False:=eq_false h0;by_cases h1:(Hr p).length<=i
 .rw[if_neg AA];have f2:(((Hr p).length:Int)<=i)=True:=eq_true h1;simp only[go_sem];refine Ab hk AB ?_;simp only[go_sem,f1,f2,ge_iff_le];exact Gt rfl
 have f2:(((Hr p).length:Int)<=i)=False:=eq_false h1;obtain⟨k,rfl⟩:∃ k:Nat,i=k:=⟨i.toNat,by omega⟩;rw[if_pos AA,Nr];obtain⟨r,hr⟩:∃ r,(Hr p)[k]?=some r:=⟨_,B9 AA⟩;obtain⟨nm,ln,n,rfl⟩:=A4r r (F7 hr);have hg:(Hr p).getD k Ao0=J4 nm ln n:=by rw[Ef,hr];rfl
 rw[hg];unfold J4 at hr ⊢;simp only[go_sem];refine Ab hk AB ?_;simp only[go_sem,f1,f2,ge_iff_le,hr];exact Gt rfl
def zeroG:Gp:=⟨true,0,[],true,0,[]⟩
def A7d:zeroG.row=[.nils,.nils]:=by grind[F1,zeroG,SL]
def Azy{s:List UInt8}{v:V}(h:Zb s v):∃ (g:Gp) (e ln:Int),v=.tup [.agg g.row,iV e,iV ln]/\(e=0->Jm s=some g)/\(e≠0->g=zeroG):=by
 unfold Zb at h
 cases hp:Jm s with
 | some g=>grind
 | none=>
  rw[hp]at h;obtain⟨e,ln,he,rfl⟩:=h;exact⟨zeroG,e,ln,by rw[A7d],fun h=>absurd h he,fun _=>rfl⟩
def Bq1{P g:Gp}(hP:OKp P)(h:Jm (Ff P)=some g):(g.thrs.map fun t=>t.nm).Nodup:=by
 have hl:(Ff P).length<=4096:=by
  rcases Bh 4096 (Ff P).length with h1 | h1
  .unfold Jm at h;rw[if_pos h1]at h;cases h
  .exact h1
 obtain⟨g',h1,h2⟩:=Aqk Am3 Azp hP.sh hl;rw[h]at h1;obtain rfl:=M5 h1;rw[<-Bao h2];exact hP.nd
def VeR(v:V):Prop:=∃ (A B:Gp) (ok:Bool),v=.tup [.agg A.row,.agg B.row,.bool ok]/\(ok=true->PY A/\PY B/\∃ P,OKp P/\Jm (Ff P)=some A)
def Bbl{g:V}{kill:List Nat}{x y:AC}{k:List It}{e:Env}{σ:St}{Q:Env->St->Prop}(P:Env->St->Prop)(h1:∀ k',(∀ e σ,P e σ->W TT PT k' e σ Q)->WC TT PT g kill x y k' e σ Q)(h2:∀ e σ,P e σ->W TT PT k e σ Q):WC TT PT g kill x y k e σ Q:=h1 k h2
set_option maxHeartbeats 4000000 in
def A3j(z0 z1 z2:Bool)(t0 t1 t2:Nat)(a b c:List UInt8)(un:Bool)(ha:a.length<=9223372036854775807)(hb:b.length<=9223372036854775807)(hc:c.length<=9223372036854775807):∃ v,Fn TT PT 4 [.agg [SL z0 t0 (B6 a),SL z1 t1 (B6 b),SL z2 t2 (B6 c),.bool un]] v/\VeR v:=by
 obtain⟨P,q1,qx⟩:=Avg z0 t0 a ha;obtain⟨P2,q2,qs⟩:=Avg z2 t2 c hc;have jp:=qx.len;have q3:=At1 (Amn qx.sh) AA;obtain⟨v4,q4,jI⟩:=Ae2 (Ff P);obtain⟨A,eA,lA,rfl,jS,jT⟩:=Azy jI;obtain⟨E,q5,hd,hE⟩:=Bgt qx z1 t1 b hb;obtain⟨je,lE⟩:=Bq0 qx hd hE;have jq:=F1 P;have qA:=F1 P2;have jj:=F1 A;have jl:=F1 E;rw[jq]at q1 q3 q5;rw[qA]at q2;rw[jj]at q4;rw[jl]at q5;refine An3 T4 rfl ?_;simp only[go_sem];refine Ab q1 AB ?_;simp only[go_sem];refine Ab q3 AB ?_;simp only[go_sem];refine Ab q4 AB ?_;simp only[go_sem];refine Af AD ?_;simp only[go_sem];refine Bf q1 AB ?_;simp only[go_sem];refine Bf q5 AB ?_;simp only[go_sem];refine Bb ?_;simp only[go_sem];refine Bb ?_;simp only[go_sem];refine Bbl (fun e s=>∃ R:Gp,(CnG R/\(Ff R).length<=20000000000)/\(e=[(1,.ptr 0 0 0),(2,.ptr 1 0 0),(3,.ptr 2 0 0),(5,.ptr 3 0 0),(8,.ptr 4 0 0)]\/e=[(2,.ptr 1 0 0),(3,.ptr 2 0 0),(5,.ptr 3 0 0),(8,.ptr 4 0 0)])/\s=[.row [SL z0 t0 (B6 a),SL z1 t1 (B6 b),SL z2 t2 (B6 c),.bool un] 24 0 0,.row [.nils,.nils] 29 0 0,.row [.nils,.nils] 29 0 0,gO A,gO R]) ?_ ?_
 .intro k' qa;cases un
  .simp only[go_sem];exact qa _ _ ⟨E,⟨je,lE⟩,.inl rfl,rfl⟩
  .simp only[go_sem];refine Ab q2 AB ?_;simp only[go_sem];exact qa _ _ ⟨P2,⟨Amn qs.sh,by have:=qs.len;omega⟩,.inr rfl,rfl⟩
 rintro _ _ ⟨R,⟨jf,lR⟩,he,rfl⟩;have q6:=At1 jf AA;obtain⟨v7,q7,jJ⟩:=Ae2 (Ff R);obtain⟨B,eB,lB,rfl,jV,jW⟩:=Azy jJ;have js:=F1 R;have jk:=F1 B;have qF:(A.thrs.map Tp.row).length=A.thrs.length:=Ar ..;rw[js]at q6;rw[jk]at q7
 have qy:∀ ok:Bool,(ok=true->eB=0/\0<A.thrs.length)->VeR (.tup [.agg (gR A),.agg (gR B),.bool ok]):=fun ok h=>by
  refine⟨A,B,ok,by grind,fun qq=>?_⟩;obtain⟨h1,h2⟩:=h qq
  have h3:eA=0:=Decidable.byContradiction fun ka=>by
   grind[zeroG]
  grind[Ak4]
 rcases he with rfl | rfl
 all_goals (
  simp only[go_sem];refine Ab q6 AB ?_;simp only[go_sem];refine Ab q7 AB ?_;simp only[go_sem];by_cases h0:eB=0
  .by_cases h1:0<A.thrs.length
   .have f1:(eB==0)=true:=by simp[h0]
    have f2:(0<(A.thrs.length:Int))=True:=eq_true AA;refine Af AD ?_;simp only[go_sem,f1,qF,f2];refine Bb ?_;simp only[go_sem];refine Bb ?_;simp only[go_sem];refine⟨.tup [.agg (gR A),.agg (gR B),.bool true],?_,qy true fun _=>⟨h0,h1⟩⟩;simp only[go_sem];exact Gt AB
   .have f1:(eB==0)=true:=by simp[h0]
    have f2:(0<(A.thrs.length:Int))=False:=eq_false AA;refine Af AD ?_;simp only[go_sem,f1,qF,f2];refine Bb ?_;simp only[go_sem];refine Bb ?_;simp only[go_sem];refine⟨.tup [.agg (gR A),.agg (gR B),.bool false],?_,qy false fun h=>by cases h⟩;simp only[go_sem];exact Gt AB
  .have f1:(eB==0)=false:=by simp[h0]
   refine Af AD ?_;simp only[go_sem,f1,qF];refine Bb ?_;simp only[go_sem];refine Bb ?_;simp only[go_sem];refine⟨.tup [.agg (gR A),.agg (gR B),.bool false],?_,qy false fun h=>by cases h⟩;simp only[go_sem]
   exact Gt AB)
def kz:Ak:=([],[],0)
def Bbm{p:Gp}(h:PX p){s:Nat}{k:Ak}(hk:(C7 p)[s]?=some k):Fn TT PT 48 [.agg p.row,iV (s:Int)] (.tup [.agg (kR k),.bool true]):=by
 have h1:=Bl2 h (s:Int);have h2:(Hr p)[s]?=some (A0 k):=by rw[Aaz,Au,hk];rfl
 have h3:=(Ao.1 h2).1
 have h4:Ah1 p (s:Int)=.tup [.agg (A0 k),.bool true]:=by
  unfold Ah1;rw[if_pos AA,Nr,Ef,h2];rfl
 rw[h4]at h1;exact h1
theorem An7(L:List Int):(Bj L).flatten=Dx L:=by
 induction L with
 | nil=>rfl
 | cons a L ih=>
  unfold Bj Dx at ih ⊢;rw[Aw,Fd,Aw,ih];rfl
theorem A4s(L:List Int):(I5 L).Perm L:=List.mergeSort_perm _ _
def A7e(L:List Int):(I5 L).Pairwise (·<=·):=by
 have:=List.pairwise_mergeSort (le:=fun x y:Int=>decide (x<=y)) (fun a b c h1 h2=>by simp at h1 h2 ⊢;omega) (fun a b=>by simp;omega) L;exact this.imp fun h=>by simpa using h
def A7f(z:Bool)(t:Nat)(l:List Int)(hn:l≠[])(hb:l.length<=1000000):Fn TT PT 78 [SL z t (Bj l)] (SL true 0 (Bj l)):=by
 have qj:Bj l≠[]:=by simpa[Bj] using hn
 have ha:=Azm (σ:=[]) (m:=1) (e:=3) (bytes:=8) (y:=.lst t (Bj l)) (ys:=Bj l) rfl qj AA (Qh l) (by grind[Iv]);rw[Ags qj];refine Bg T78 rfl ?_;simp only[go_sem,ha];exact Tr (m:=1) (e:=3) (lo:=0) (.inr ⟨qj,0,0,rfl,rfl,Aj _⟩) AA (Qh l) (X0 l)
def Avh{σ:St}{i t:Nat}{P A:List Int}{R:List V}(ho:σ[i]?=some (.row (Dx P++R) 3 0 0))(hr:A.length<=R.length)(hb:P.length+A.length<=1000000):
  Dt 8 (1,3) (.sl i 0 0 P.length 1 true) (.lst t (Bj A)) σ=some (.sl i 0 0 (P++A).length 1 true,σ.set i (.row (Dx (P++A)++R.drop A.length) 3 0 0)):=by
 have qg:((Bj A).all fun r=>r.length==1)=true:=by
  rw[Bu];intro r hr;simp[Qh A r hr]
 have jp:(Dx P).length=P.length:=by unfold Dx;rw[Ar]
 have ql:=Iv A;unfold Dt;simp only[Eu,C5];unfold Jz;simp only;rw[if_pos ⟨qg,by omega⟩,if_pos ⟨by omega,trivial⟩];simp only[ho,if_pos];by_cases hA:A=[]
 .subst hA;simp only[Bj,B0,Aim,if_pos,Cc,Dc,Jf];rw[Nw ho]
 .have he:(Bj A).isEmpty=false:=by simpa[Bj] using hA
  rw[he,if_neg AE,if_pos ⟨trivial,trivial,trivial,Ax _⟩,if_pos (by grind),ql,An7,Zr,Zr,Aq]
  grind[Dx,List.drop_append,List.drop_eq_nil_of_le]
def A7g(a b:Nat)(A B:List Int)(h0:A++B≠[])(hb:A.length+B.length<=1000000):
  Fn TT PT 79 [.lst 1 [[.lst a (Bj A)],[.lst b (Bj B)]]] (SL true 0 (Bj (A++B))):=by
 have qj:Bj (A++B)≠[]:=by simpa[Bj] using h0
 have ql:=Iv A;have qd:=Iv B;have w1:IntKind.i64.wrap (0+(A.length:Int))=(A.length:Int):=by rw[Cm AA];omega
 have w2:IntKind.i64.wrap ((A.length:Int)+(B.length:Int))=((A.length+B.length:Nat):Int):=by rw[Cm AA];omega
 have f1:((A.length:Int)<0)=False:=eq_false AA;have f2:(((A.length+B.length:Nat):Int)<0)=False:=eq_false AA
 have jC:0<A.length+B.length:=by
  rcases Ww (A.length+B.length) with h | h
  .simp_all
  .exact h
 have hg:Aby [.nils,iV ((A.length+B.length:Nat):Int)] []=some (.sl 0 0 0 0 1 true,[.row (List.replicate (A.length+B.length) (iV 0)) 3 0 0]):=by
  unfold Aby
  simp only;rw[if_neg AA,if_pos ⟨by omega,by omega⟩,Nr];rfl
 have a1:=Avh (σ:=[.row (List.replicate (A.length+B.length) (iV 0)) 3 0 0]) (i:=0) (t:=a) (P:=[]) (A:=A) (R:=List.replicate (A.length+B.length) (iV 0)) rfl AE (by grind);have a2:=Avh (σ:=[.row (Dx A++List.replicate B.length (iV 0)) 3 0 0]) (i:=0) (t:=b) (P:=A) (A:=B) (R:=List.replicate B.length (iV 0)) rfl AE AA;simp only[Ba,Dc,List.drop_replicate,Nat.add_sub_cancel_left,Ac7,Is,List.replicate_zero,Cc]at a1 a2;rw[Ags qj];refine Bg T79 rfl ?_;simp only[go_sem];refine Bd Anu ?_;simp only[go_sem,ql,w1,f1];refine Bd Anu ?_;simp only[go_sem,qd,w2,f2];refine Bd Anu ?_;simp only[go_sem];refine Jg (.spec T131 rfl rfl hg) ?_;simp only[go_sem];refine Bd Anv ?_;simp only[go_sem,a1];refine Bd Anv ?_;simp only[go_sem,a2];refine Bd Anv ?_;simp only[go_sem];have:=Ag5 (σ:=[.row (Dx (A++B)) 3 0 0]) (m:=1) (e:=3) (i:=0) (g:=0) (xs:=Bj (A++B)) (by grind[An7]) AA (Qh _) (X0 _);rw[Iv,Aq]at this;exact this
abbrev Mt:List Int->List Int->Int:=H9 Lib.compareInt
def Gv(l:List Int):List Int:=N5 (fun x y=>decide (Mt x y<0)) l (List.range l.length) l
def A3k(z u:Bool)(t w:Nat)(A B:List Int)(ha:A.length<=1000000)(hb:B.length<=1000000):
  Fn TT PT 80 [SL z t (Bj A),SL u w (Bj B)] (iV (Mt A B)):=by
 have ql:=Iv A;have qd:=Iv B;refine Bg T80 rfl ?_;simp only[go_sem,ql]
 refine Bk (α:=Nat) (fun i=>A.length - i) (fun i=>[(0,SL z t (Bj A)),(1,SL u w (Bj B)),(9,SL z t (Bj A)),(10,iV (A.length:Int)),(11,iV (i:Int))]) (fun _=>[])
  (fun i=>i<=A.length/\i<=B.length/\Mt A B=Mt (A.drop i) (B.drop i)) ?_ 0 ⟨Ax _,Ax _,rfl⟩
 rintro i ⟨hi,qQ,hc⟩ ih;refine Bd Bpy ?_;rcases Bh i A.length with h | h;rotate_left
 .have ju:i=A.length:=by omega
  subst ju;rw[List.drop_length]at hc;simp only[go_sem,Bl h,ql,qd];by_cases h2:A.length<B.length
  .have f1:((A.length:Int)<(B.length:Int))=True:=eq_true AA;rw[Io h2]at hc;simp only[go_sem,f1];exact Ah rfl (by rw[hc];rfl)
  .have f1:((A.length:Int)<(B.length:Int))=False:=eq_false AA;rw[D1 AA]at hc;simp only[go_sem,f1];exact Ah rfl (by rw[hc];rfl)
 obtain⟨x,hx,qX,-⟩:=Br h;have qw:(Bj A)[i]?=some [iV x]:=by unfold Bj;rw[Au,hx];rfl
 have i1:IntKind.i64.wrap ((i:Int)+1)=((i+1:Nat):Int):=A2 AA;rcases Bh i B.length with h2 | h2;rotate_left
 .have f1:((i:Int)>=(B.length:Int))=True:=eq_true AA;rw[qX,D1 h2]at hc;simp only[go_sem,Az h,qw,qd,f1];exact Ah rfl (by rw[hc];rfl)
 obtain⟨y,hy,jO,-⟩:=Br h2;have qe:(Bj B)[i]?=some [iV y]:=by unfold Bj;rw[Au,hy];rfl
 have f1:((i:Int)>=(B.length:Int))=False:=eq_false AA;rw[qX,jO]at hc
 have qv:Mt A B=if Lib.compareInt x y≠0 then Lib.compareInt x y else Mt (A.drop (i+1)) (B.drop (i+1)):=hc
 simp only[go_sem,Az h,qw,qd,f1,qe];refine Ab (Aaw x y) AB ?_;simp only[go_sem];by_cases h3:Lib.compareInt x y=0
 .rw[if_neg AA]at qv;have f2:(Lib.compareInt x y != 0)=false:=by simpa using h3
  simp only[go_sem,f2,i1];exact Av (ih (i+1) AA ⟨h,h2,qv⟩) rfl
 .rw[if_pos h3]at qv;have f2:(Lib.compareInt x y != 0)=true:=by simpa using h3
  simp only[go_sem,f2];exact Ah rfl (by rw[qv])
def Bgu(t:Nat)(l:List Int)(i:Nat)(h:i<=l.length):∃ t1,Ha 1 (.lst t (Bj l)) (some (iV (i:Int))) none none=some (.lst t1 (Bj (l.drop i))):=by
 have qg:((Bj l).all fun r=>r.length==1)=true:=by
  rw[Bu];intro r hr;simp[Qh l r hr]
 have hd:Bj (l.drop i)=(Bj l).drop i:=by unfold Bj;rw[Aiv]
 have hl:=Iv l
 have h2:Ha 1 (.lst t (Bj l)) (some (iV (i:Int))) none none=some (.lst (if(none:Option V).isSome then 1 else if(Bj l).length=(Bj l).length/\t=1 then 1 else 0) (((Bj l).take (Bj l).length).drop i)):=by
  simp only[Ha,Dy,if_pos (Ze i),Nr,C5];rw[if_pos ⟨by omega,Aj _,trivial,.inr qg⟩]
 grind
def Bgv(t:Nat)(l:List Int)(i:Nat)(h:i<=l.length):∃ t1,Ha 1 (.lst t (Bj l)) none (some (iV (i:Int))) none=some (.lst t1 (Bj (l.take i))):=by
 have hd:Bj (l.take i)=(Bj l).take i:=by unfold Bj;rw[W4]
 have hl:=Iv l
 have h2:Ha 1 (.lst t (Bj l)) none (some (iV (i:Int))) none=some (.lst (if(none:Option V).isSome then 1 else if i=(Bj l).length/\t=1 then 1 else 0) (((Bj l).take i).drop 0)):=by
  simp only[Ha,Dy,if_pos (Ze i),Nr,C5];rw[if_pos ⟨Ax _,by omega,trivial,.inl trivial⟩]
 grind
def Bgw{l:List Int}(hn:l≠[])(i:Nat):E7 l i≠[]:=fun e=>by
 grind[Aaf]
def Bgx(z:Bool)(t:Nat)(l:List Int)(hn:l≠[])(hb:l.length<=1000):
  Fn TT PT 47 [SL z t (Bj l)] (SL true 0 (Bj (Gv l))):=by
 have hl:=Iv l;have qj:Bj l≠[]:=by simpa[Bj] using hn
 have g1:=A7f z t l hn AA;rw[Ags qj]at g1 ⊢;refine Bg T47 rfl ?_;simp only[go_sem];refine Ab g1 AB ?_;simp only[go_sem,hl]
 refine Bk (α:=Nat × List Int) (fun a=>l.length - a.1) (fun a=>[(0,.lst t (Bj l)),(3,SL true 0 (Bj a.2)),(9,iV (l.length:Int)),(10,iV (a.1:Int))]) (fun _=>[])
  (fun a=>a.1<=l.length/\a.2.length=l.length/\Gv l=N5 (fun x y=>decide (Mt x y<0)) l ((List.range l.length).drop a.1) a.2) ?_ (0,l) ⟨Ax _,rfl,rfl⟩
 rintro⟨i,qc⟩ ⟨hi,qu,hc⟩ ih;simp only at hi qu hc ih;refine Bd Bpe ?_;rcases Bh i l.length with h | h;rotate_left
 .rw[D1 (by grind)]at hc;have hc:Gv l=qc:=hc;simp only[go_sem,Bl h];rw[hc];exact Fw AB
 rw[Io (by grind),List.getElem_range]at hc;have hc:Gv l=N5 (fun x y=>decide (Mt x y<0)) l ((List.range l.length).drop (i+1)) (if decide (Mt (E7 l i) qc<0)=true then E7 l i else qc):=hc;obtain⟨t1,c1⟩:=Bgu t l i hi;obtain⟨t2,c2⟩:=Bgv t l i hi;have i1:IntKind.i64.wrap ((i:Int)+1)=((i+1:Nat):Int):=A2 AA;have g2:=A7g t1 t2 (l.drop i) (l.take i) (Bgw hn i) (by grind);have g3:=A3k true true 0 0 (E7 l i) qc (by grind[Aaf]) AA;simp only[go_sem,Az h];refine Af AD ?_;simp only[go_sem,c1,c2];refine Bf g2 AB ?_;simp only[go_sem];refine Ab g3 AB ?_;simp only[go_sem];by_cases h3:Mt (E7 l i) qc<0
 .have f2:(Mt (E7 l i) qc<0)=True:=eq_true h3;rw[if_pos (decide_eq_true h3)]at hc;simp only[go_sem,f2,i1];exact Av (ih (i+1,_) AA ⟨h,Aaf l i,hc⟩) rfl
 .have f2:(Mt (E7 l i) qc<0)=False:=eq_false h3;rw[if_neg (by grind)]at hc;simp only[go_sem,f2,i1];exact Av (ih (i+1,_) AA ⟨h,qu,hc⟩) rfl
def Avi(n:Nat){σ:St}{m e lo:Nat}{v:V}{xs:List (List V)}(h:GW σ m e lo v xs):(v.ren (·+n)).refs=v.refs.map (·+n):=by
 rcases h with⟨rfl,-⟩ | ⟨-,i,g,rfl,-⟩
 .rfl
 .rfl
def Bbn(σ:St){σ0:St}{lo:Nat}{u:V}{L:List (V × Ent)}(h:NG σ0 lo u L):NG (σ++σ0.map (Ob.ren (·+σ.length))) σ.length (u.ren (·+σ.length)) (L.map fun p=>(p.1.ren (·+σ.length),p.2)):=by
 have qD:∀ (i:Nat) (ob:Ob),σ0[i]?=some ob->(σ++σ0.map (Ob.ren (·+σ.length)))[i+σ.length]?=some (ob.ren (·+σ.length)):=fun i ob ho=>by
  grind
 refine⟨?_,fun p hp=>?_⟩
 .rcases h.1 with⟨rfl,h1⟩ | ⟨qS,i,g,rfl,ho,qR⟩
  .refine .inl ⟨rfl,?_⟩
   simp_all
  .refine .inr ⟨by simp_all,i+σ.length,g,by simp[V.ren],?_,by omega⟩;rw[qD i _ ho];simp only[Ob.ren];congr 2
   have:∀ L:List (V × Ent),Fh (·+σ.length) (L.map Fy).flatten=((L.map fun p=>(p.1.ren (·+σ.length),p.2)).map Fy).flatten:=by
    intro L
    induction L with
    | nil=>rfl
    | cons p L ih=>
     grind[Fy,Fh,V.ren]
   grind
 .obtain⟨p0,qU,rfl⟩:=Cs.1 hp;refine⟨(h.2 p0 qU).1,?_⟩;rcases(h.2 p0 qU).2 with⟨e1,h1⟩ | ⟨qS,i,g,e1,ho,qR⟩
  .exact .inl ⟨by grind[V.ren],h1⟩
  .refine .inr ⟨qS,i+σ.length,g,by grind[V.ren],?_,by omega⟩
   grind[Ob.ren,Sv,Ft,Nu]
def Bbo(n:Nat){σ0:St}{lo:Nat}{u:V}{L:List (V × Ent)}(h:NG σ0 lo u L)(hd:Dj L):Dj (L.map fun p=>(p.1.ren (·+n),p.2)):=by
 unfold Dj at hd ⊢;rw[List.pairwise_map];refine hd.imp_of_mem fun {p q} hp hq kb=>?_
 simp only;rw[Avi n (h.2 p hp).2,Avi n (h.2 q hq).2]
 grind
def X1{m:Nat}:∀ {xs:List (List V)} {i j:Nat} {r:List V} {c:V},(∀ r∈xs,r.length=m)->xs[i]?=some r->r[j]?=some c->xs.flatten[i*m+j]?=some c
 | x::xs,0,j,r,c,hl,hi,hj=>by
  grind
 | x::xs,i+1,j,r,c,hl,hi,hj=>by
  have hx:=hl x B4;rw[Fd,F6 (by grind),hx,show(i+1)*m+j - m=i*m+j by grind];exact X1 (fun r hr=>hl r (Cb _ hr)) (by grind) hj
def Ab7{cs:List V}{e g z off:Nat}{c:V}(h:cs[off]?=some c):Mv (some (.row cs e g z)) g 1 true off=some c:=by
 obtain⟨hl,rfl⟩:=Ao.1 h;rw[Ag4,if_pos ⟨rfl,by omega⟩,Io hl];rfl
def Afv{m:Nat}{xs:List (List V)}{e g z i:Nat}{r:List V}(hl:∀ r∈xs,r.length=m)(hi:xs[i]?=some r):Mv (some (.row xs.flatten e g z)) g m false (i*m)=some (.agg r):=by
 obtain⟨h1,h2⟩:=Ao.1 hi;have hf:=Gg hl;have jv:(i+1)*m<=xs.length*m:=E0 m h1;rw[G0]at jv;have hr:=hl r (F7 hi)
 have e1:xs.flatten=(xs.take i).flatten++(r++(xs.drop (i+1)).flatten):=by
  rw[<-h2,<-Fd,<-Io h1,<-Ac6,Nn]
 have e2:(xs.take i).flatten.length=i*m:=by rw[Gg fun r hr=>hl r (Np hr),Iq,W0 AA]
 rw[Ag4,if_pos ⟨rfl,by omega⟩,e1,<-e2,List.drop_left,<-hr,Adh];rfl
def Aa7{m:Nat}{xs:List (List V)}{i:Nat}{r:List V}(hl:∀ r∈xs,r.length=m)(hi:i<xs.length)(hr:r.length=m):xs.flatten.take (i*m)++r++xs.flatten.drop (i*m+m)=(xs.set i r).flatten:=by
 have e1:xs.flatten=(xs.take i).flatten++(xs[i]++(xs.drop (i+1)).flatten):=by
  rw[<-Fd,<-Io hi,<-Ac6,Nn]
 have e2:(xs.take i).flatten.length=i*m:=by rw[Gg fun r hr=>hl r (Np hr),Iq,W0 AA]
 have e3:xs[i].length=m:=hl _ (M4 hi);rw[e1,<-e2,Adh,Wy,Wy,D1 AA,Ba,D1 AA,Ba,show(xs.take i).flatten.length+m - (xs.take i).flatten.length - xs[i].length=0 by omega,Jf,List.set_eq_take_append_cons_drop,if_pos hi,Ac6,Fd,Bt]
def Fq(K:List Ak)(seen:Int)(S:List Ak)(j:Nat):List Ak:=Jy K seen 0 (S.take j)++S.drop j
def Asf(K:List Ak)(seen:Int):∀ (a b:List Ak) (i:Nat),Jy K seen i (a++b)=Jy K seen i a++Jy K seen (i+a.length) b
 | [],b,i=>rfl
 | x::a,b,i=>by rw[Bq,Jy,Jy,Asf K seen a b (i+1),Bq,An,show i+1+a.length=i+(a.length+1) by omega]
def Bbp(K:List Ak)(seen:Int)(S:List Ak)(j:Nat):(Fq K seen S j).length=S.length:=by
 grind[Fq,Sx]
theorem Avj{K:List Ak}{seen:Int}{S:List Ak}{j:Nat}{k:Ak}(h:S[j]?=some k):(Fq K seen S j)[j]?=some k:=by
 obtain⟨hj,rfl⟩:=Ao.1 h;have hl:(Jy K seen 0 (S.take j)).length=j:=by rw[Sx,Iq,W0 AA]
 unfold Fq
 grind
theorem Avk{K:List Ak}{seen:Int}{S:List Ak}{j:Nat}{k:Ak}(h:S[j]?=some k):Fq K seen S (j+1)=(Fq K seen S j).set j (Qu K seen j k):=by
 obtain⟨hj,rfl⟩:=Ao.1 h;have hl:(Jy K seen 0 (S.take j)).length=j:=by rw[Sx,Iq,W0 AA]
 unfold Fq;rw[Aic _ _ AA,hl,Is,Io hj,Ac7,M3,h,Ac9,Asf,Iq,W0 AA,Bt];simp[Jy]
def Asg{K:List Ak}{seen:Int}{S:List Ak}{j:Nat}{k:Ak}(h:S[j]?=some k)(hk:Qu K seen j k=k):Fq K seen S (j+1)=Fq K seen S j:=by
 grind[Avk,Avj,List.set_getElem_self]
def Aj7{σ:St}{m e lo:Nat}{u:V}{xs:List (List V)}(h:GW σ m e lo u xs)(hr:∀ r∈xs,r.all V.rowB=true){args:List V}{v:V}(ha:Ag args=u.refs):∃ σ',after σ args v=σ'/\σ'.length=σ.length/\∀ j,j ∉ u.refs->σ'[j]?=σ[j]?:=by
 refine⟨_,rfl,?_⟩;unfold after
 split
 .grind
 .rcases h with⟨rfl,rfl⟩ | ⟨hn,i,g,rfl,ho,qR⟩
  .have:Mp σ args=[]:=by unfold Mp;rw[ha];rfl
   rw[this];exact⟨rfl,fun _ _=>rfl⟩
  .have:Mp σ args=[i]:=by
    unfold Mp;rw[ha];have e1:(V.refs (.sl i g 0 xs.length m true)).eraseDups=[i]:=by simp[V.refs,List.eraseDups_cons]
    rw[e1];have hx:Ag xs.flatten=[]:=Ft (Id hr);simp[Fr,ho,Ob.refs,hx]
   grind[A2q,Aqc,V.refs]
def Yi(k:Ak):Prop:=0<=k.2.2/\k.2.2<=1000/\k.2.1.length<=1000/\k.1.length<=1000
def A3l(n:Nat):Yi (Hq n):=by
 unfold Yi Hq;simp only;refine⟨by omega,by omega,?_,?_⟩
 .split
  .decide
  .split<;>decide
 grind
def A4t(x:Item):∀ k∈x.ent.sites,Yi k:=fun k hk=>by
 unfold Item.ent at hk;obtain⟨n,-,rfl⟩:=Cs.1 hk;simp[A3l]
