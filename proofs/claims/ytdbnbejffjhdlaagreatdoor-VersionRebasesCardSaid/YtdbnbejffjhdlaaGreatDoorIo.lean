/- Walks: the maker of programs: programs. Printed by gen_io.py. -/
import Derived.Test.YtdbnbejffjhdlaaGreatDoorIl
set_option linter.all false
namespace Go.Proofs.YtdbnbejffjhdlaaGreatDoor.KM
open Go
structure OKp (p:Gp):Prop where
 sh:ShG p
 len:(Ij p).length<=10000000000
 siz:∀ t∈p.thrs,Sp.szs t.body<=1000000
 blk:C5 p.row<=1000000
 ln:LnG p
 few:p.thrs.length<=5
 nd:(p.thrs.map fun t=>t.nm).Nodup
def nml:List (List UInt8):=[[109,97,105,110],[116,49],[116,50],[116,51]]
def A8d{L:List Tp}{i:Nat}{nm:List UInt8}{t:Tp}(h:(L.map fun t=>t.nm)=nml.take i)(hn:([[V.str [109,97,105,110]],[V.str [116,49]],[V.str [116,50]],[V.str [116,51]]]:List (List V))[i]?=some [V.str nm])(ht:t.nm=nm):((L++[t]).map fun t=>t.nm)=nml.take (i+1):=by
 have hn:(nml.map fun x=>[V.str x])[i]?=some [V.str nm]:=hn;rw[Ai]at hn
 cases hi:nml[i]? with
 | none=>rw[hi]at hn;cases hn
 | some x=>
  rw[hi]at hn;simp at hn;rw[Dl,h,Hk,hi,hn,<-ht];rfl
def Bh2{L:List Tp}{i:Nat}(h:(L.map fun t=>t.nm)=nml.take i):(L.map fun t=>t.nm).Nodup:=h ▸ List.Pairwise.sublist (List.take_sublist i nml) AP
def Rv(t:Tp):Prop:=Mg t.nm/\t.locals=[[97],[98]]/\(∀ s∈t.body,SM 2 s)/\t.body.length<=10
def Bh3{t:Tp}(h:Rv t):MT t:=by
 obtain⟨h1,h2,h3,h4⟩:=h;refine⟨h1,⟨?_,?_⟩,2,by omega,fun s hs=>(h3 s hs).1,by omega⟩
 .rw[h2];exact Bcz AD
 .rw[h2];simp
def Avi:∀ {l:List Sp},(∀ s∈l,SM 2 s)->Cz (l.map Sp.row)<=l.length*2100
 | [],_=>by simp[Cz]
 | x::l,h=>by
  have h1:=(h x AE).2;have h2:=Avi (l:=l) fun s hs=>h s (by simp[hs])
  have:BK 2=2100:=rfl;rw[A2,Cz,Bg,F1];omega
def As7:∀ {L:List Tp},(∀ t∈L,Rv t)->Cz (L.map Tp.row)<=L.length*30000
 | [],_=>by simp[Cz]
 | x::l,h=>by
  obtain⟨h1,h2,h3,h4⟩:=h x AE;have h5:=As7 (L:=l) fun s hs=>h s (by simp[hs])
  have h6:=Avi h3;have h7:=h1.2;have h8:Cz (x.locals.map fun s=>[V.str s])=4:=by rw[h2];rfl
  have h9:x.body.length*2100<=10*2100:=Fl _ h4;rw[A2,Cz,Bg,F1,Aa9];omega
def Avj:∀ {L:List Tp},(∀ t∈L,Rv t)->N1 L<=L.length*1000
 | [],_=>by simp[N1]
 | x::l,h=>by
  obtain⟨h1,h2,h3,h4⟩:=h x AE;have h5:=Avj (L:=l) fun s hs=>h s (by simp[hs])
  have h6:=Aan (k:=2) (l:=x.body) fun s hs=>(h3 s hs).1
  have z2:ZB 2=21:=rfl;have h9:x.body.length*ZB 2<=10*ZB 2:=Fl _ h4;have:N1 (x::l)=Sp.szs x.body+N1 l:=by simp[N1]
  rw[this,Bg,F1];omega
def Avk{z1 z2:Bool}{t1 t2:Nat}{L:List Tp}(hL:∀ t∈L,Rv t)(h5:L.length<=5)(h0:L≠[])(jn:(L.map fun t=>t.nm).Nodup):OKp ⟨z1,t1,declsL,z2,t2,L⟩/\N1 L<=1000000:=by
 obtain⟨a,b,c⟩:=Bnk (D:=declsL) (L:=L) ⟨A4k.1,by decide⟩ (fun t ht=>Bh3 (hL t ht)) h5 h0;have h1:=As7 hL;have h2:=Avj hL;have h3:L.length*30000<=5*30000:=Fl _ h5;have h4:L.length*1000<=5*1000:=Fl _ h5;have hd:Cz (declsL.map Dp.row)<=1000:=by decide +kernel
 refine⟨⟨⟨a.decls,a.nms,a.locs,a.thrs,a.some⟩,b,c,?_,⟨by simp only;decide,by simp only;omega,fun t ht=>?_⟩,h5,jn⟩,by omega⟩
 .rw[Amj];simp only;omega
 .rw[(hL t ht).2.1];simp
def Bh4:MX 1 (Gn 1):=by
 refine⟨.num AA,?_,?_⟩
 .have:(Gn 1).txt.length=1:=by unfold Gn;rw[F3];rfl
  have e1:EB 1=54:=rfl;omega
 .unfold Gn;rw[Ha];have x1:N2 1=36:=rfl;simp[Cz];omega
def Ayz{f p:Nat}{res:List AR}{body:AC}{vs:List V}{R:Gp->Prop}(hT:TT f=some ⟨p,res,false,body,none⟩)(hl:vs.length=p)
  (h:W TT PT [.c body] (C6 0 vs) [] (Hd fun e' σ1=>∃ u1 u2 z1 t1 z2 t2 D L,Ca e' σ1 res=some (.agg [u1,u2])/\(OC σ1 u1 (SL z1 t1 (D.map Dp.row))/\u1.cellB=true)/\(OC σ1 u2 (SL z2 t2 (L.map Tp.row))/\u2.cellB=true)/\R ⟨z1,t1,D,z2,t2,L⟩)):∃ p:Gp,Fn TT PT f vs (.agg p.row)/\R p:=by
 obtain⟨e',σ1,hE,u1,u2,z1,t1,z2,t2,D,L,hr,⟨h1,c1⟩,⟨h2,c2⟩,hR⟩:=h;refine⟨⟨z1,t1,D,z2,t2,L⟩,?_,hR⟩;have jp:OV σ1 (.agg [u1,u2]) (.agg [SL z1 t1 (D.map Dp.row),SL z2 t2 (L.map Tp.row)]):=Sw (.cons h1 (.cons h2 .nil));have qb:Df (.agg [SL z1 t1 (D.map Dp.row),SL z2 t2 (L.map Tp.row)])=true:=by simp only[Df,Bp,Ce,Ux];rfl
 refine Apy hT rfl rfl hl ⟨e',σ1,hE,.agg [u1,u2],Ah [u1,u2],hr,?_,jp _ (fun i hi=>hi),?_,?_⟩
 .show([u1,u2].all V.cellB)=true;simp only[Bp,Ce,c1,c2];rfl
 .exact Wh qb
 .exact Yt qb
def Axk{s:St}(h:s[3]?=some (.row (declsL.map Dp.row).flatten 86 0 0)):OC s (.sl 3 0 0 9 6 true) (SL true 0 (declsL.map Dp.row))/\(V.sl 3 0 0 9 6 true).cellB=true:=
 ⟨Pz (xs:=declsL.map Dp.row) h AA (Ac8 declsL) (Aio declsL),rfl⟩
set_option maxRecDepth 20000 in
set_option maxHeartbeats 16000000 in
def As8(z:Bool)(t:Nat)(l:List UInt8)(hl:l.length<=9223372036854775807):∃ p:Gp,Fn TT PT 13 [SL z t (B4 l)] (.agg p.row)/\OKp p:=by
 refine Ayz T13 rfl ?_;refine Ix (fun e s=>e=[(0,SL z t (B4 l)),(2,.ptr 0 0 0)]/\s=[.row [.nils,.nils] 29 0 0]) ?_ ?_
 .intro k' qd;simp only[go_sem];exact qd _ _ ⟨rfl,rfl⟩
 rintro _ _ ⟨rfl,rfl⟩;refine Ix (fun e s=>e=[(2,.ptr 0 0 0),(3,.ptr 2 0 0)]/\s=[.row [.nils,.nils] 29 0 0,.row [SL z t (B4 l),iV 0] 95 0 0,mO 1 0 20 false false false false .nils]) ?_ ?_
 .intro k' qd;have hb:V.cellB (SL z t (B4 l))=true:=Gb (Ux _ _ _);simp only[go_sem,hb];exact qd _ _ ⟨rfl,rfl⟩
 rintro _ _ ⟨rfl,rfl⟩;refine Ix (fun e s=>e=[(2,.ptr 0 0 0),(3,.ptr 2 0 0),(4,.ptr 4 0 0)]/\PW s .nils []) ?_ ?_
 .intro k' qd;simp only[go_sem];refine Jf (Apa _) ?_;simp only[go_sem]
  have qW:MKr [.row [.nils,.nils] 29 0 0,.row [SL z t (B4 l),iV 0] 95 0 0,mO 1 0 20 false false false false .nils,.row (declsL.map Dp.row).flatten 86 0 0,.row [.sl 3 0 0 9 6 true,.nils] 29 0 0] 2 1 .nils []:=by
   refine⟨⟨0,20,false,false,false,false,rfl⟩,⟨z,t,l,0,rfl,Av _,hl⟩,by decide,Aar,by simp[V.refs],?_⟩;intro ob hm j hj;simp only[Bo,Of,or_false]at hm;rcases hm with rfl | rfl | rfl | rfl | rfl
   .simp[Ob.refs,Ah,V.refs]at hj
   .simp[Ob.refs,Ah,V.refs,Om]at hj
   .simp[Ob.refs,Ah,V.refs]at hj;subst hj;simp
   .simp only[Ob.refs,Ah0]at hj;cases hj
   .simp[Ob.refs,Ah,V.refs]at hj;subst hj;simp
  have hf:=Ia qW;exact qd _ _ ⟨rfl,⟨_,qW⟩,by simp,rfl,rfl,rfl,by rw[hf];simp[V.refs],by rw[hf];simp[V.refs],by rw[hf];simp[V.refs],De,by simp[V.refs]⟩
 rintro _ s ⟨rfl,pw⟩;refine Ix (fun e s=>∃ n:Nat,(2<=n/\n<=4)/\e=[(2,.ptr 0 0 0),(3,.ptr 2 0 0),(4,.ptr 4 0 0),(5,iV (n:Int))]/\PW s .nils []) ?_ ?_
 .intro k' qd;obtain⟨_,_,_,_,_,_,_,m1,-⟩:=Aau pw;obtain⟨uH,hk⟩:=pw.hk;obtain⟨r,s2,q2,h2,w2,l2,r2,m2⟩:=Q2 hk 3 3 rfl AA;have en:IntKind.i64.wrap (2+(r:Int))=((2+r:Nat):Int):=by rw[B7 AA];omega
  simp only[go_sem,m1];refine Aa q2 ?_;simp only[go_sem,en];exact qd _ _ ⟨2+r,by omega,rfl,Agb pw h2 w2⟩
 clear pw s;rintro _ s ⟨n,hn,rfl,pw⟩;refine Ix (fun e s=>e=[(2,.ptr 0 0 0),(3,.ptr 2 0 0),(4,.ptr 4 0 0),(5,iV (n:Int)),(6,.lst 1 [[.str [109,97,105,110]],[.str [116,49]],[.str [116,50]],[.str [116,51]]])]/\PW s .nils []) ?_ ?_
 .intro k' qd;simp only[go_sem];exact qd _ _ ⟨rfl,pw⟩
 clear pw s;rintro _ s ⟨rfl,pw⟩;refine Ix (fun e s=>(∃ i:Nat,e=[(2,.ptr 0 0 0),(3,.ptr 2 0 0),(4,.ptr 4 0 0),(5,iV (n:Int)),(6,.lst 1 [[.str [109,97,105,110]],[.str [116,49]],[.str [116,50]],[.str [116,51]]]),(7,iV (i:Int))])/\∃ u2 L,PW s u2 L/\(∀ t∈L,Rv t)/\L.length<=5/\L≠[]/\(L.map fun t=>t.nm).Nodup) ?_ ?_
 .intro k' qd;simp only[go_sem];refine Bh (α:=Nat × St × V × List Tp) (fun a=>n - a.1) (fun a=>[(2,.ptr 0 0 0),(3,.ptr 2 0 0),(4,.ptr 4 0 0),(5,iV (n:Int)),(6,.lst 1 [[.str [109,97,105,110]],[.str [116,49]],[.str [116,50]],[.str [116,51]]]),(7,iV (a.1:Int))]) (fun a=>a.2.1) (fun a=>a.1<=n/\PW a.2.1 a.2.2.1 a.2.2.2/\(∀ t∈a.2.2.2,Rv t)/\a.2.2.2.length=a.1/\(a.2.2.2.map fun t=>t.nm)=nml.take a.1) ?_ (0,s,.nils,[]) ⟨Av _,pw,(fun d hd=>by cases hd),rfl,rfl⟩;clear pw s;rintro⟨i,s,u2,L⟩ ⟨hi,pw,hL,qj,qk⟩ ih;simp only at hi pw hL qj qk ih;refine Az Bkv ?_;rcases Bb i n with h' | h';rotate_left
  .simp only[go_sem,Bi h'];exact qd _ _ ⟨⟨i,rfl⟩,u2,L,pw,hL,by omega,(fun e=>by rw[e]at qj;simp at qj;omega),Bh2 qk⟩
  obtain⟨nm,qD,qC⟩:=Zg [[109,97,105,110],[116,49],[116,50],[116,51]] AD (j:=i) AJ;simp only[A2,Bz]at qD;refine Ix (fun e s'=>e=[(2,.ptr 0 0 0),(3,.ptr 2 0 0),(4,.ptr 4 0 0),(5,iV (n:Int)),(6,.lst 1 [[.str [109,97,105,110]],[.str [116,49]],[.str [116,50]],[.str [116,51]]]),(7,iV (i:Int))]/\s'=s) ?_ ?_
  .intro k' qd;simp only[go_sem,Ar h'];exact qd _ _ ⟨rfl,rfl⟩
  rintro _ s' ⟨rfl,e0⟩;rw[e0];clear e0 s';refine Ix (fun e s'=>(e=[(2,.ptr 0 0 0),(3,.ptr 2 0 0),(4,.ptr 4 0 0),(5,iV (n:Int)),(6,.lst 1 [[.str [109,97,105,110]],[.str [116,49]],[.str [116,50]],[.str [116,51]]]),(7,iV (i:Int))]\/∃ v,e=[(2,.ptr 0 0 0),(3,.ptr 2 0 0),(4,.ptr 4 0 0),(5,iV (n:Int)),(6,.lst 1 [[.str [109,97,105,110]],[.str [116,49]],[.str [116,50]],[.str [116,51]]]),(7,iV (i:Int)),(9,v)])/\∃ u' t,PW s' u' (L++[t])/\Rv t/\t.nm=nm) ?_ ?_;rotate_left
  .clear pw qC;rintro e s ⟨he,u',t,pw,ht,ju⟩;have hN:=A8d qk qD ju;have je:∀ x∈L++[t],Rv x:=fun x hx=>(Ch.1 hx).elim (hL x) fun hx=>by rw[D4.1 hx];exact ht
   rcases he with rfl | ⟨v,rfl⟩
   all_goals
    simp only[go_sem,Ay (show i<9223372036854775807 by omega)];exact Am (ih (i+1,s,u',L++[t]) AH ⟨h',pw,je,by rw[Aq,Hi,qj],hN⟩) rfl
  clear ih qd k';intro k' qd;rw[Ax6];refine Ix (fun e s'=>e=[(2,.ptr 0 0 0),(3,.ptr 2 0 0),(4,.ptr 4 0 0),(5,iV (n:Int)),(6,.lst 1 [[.str [109,97,105,110]],[.str [116,49]],[.str [116,50]],[.str [116,51]]]),(7,iV (i:Int))]/\PW s' u2 L) ?_ ?_
  .intro k2 qe;obtain⟨_,_,_,_,_,_,_,m1,ho⟩:=Aau pw;simp only[go_sem,m1];exact qe _ _ ⟨rfl,ho _ _ _ _ _ _⟩
  clear pw s;rintro _ s0 ⟨rfl,pw⟩;refine Ix (fun e s'=>e=[(2,.ptr 0 0 0),(3,.ptr 2 0 0),(4,.ptr 4 0 0),(5,iV (n:Int)),(6,.lst 1 [[.str [109,97,105,110]],[.str [116,49]],[.str [116,50]],[.str [116,51]]]),(7,iV (i:Int)),(8,.ptr s0.length 0 0)]/\TH s0 s' nm u2 L .nils []) ?_ ?_
  .intro k2 qe;simp only[go_sem,qD];exact qe _ _ ⟨rfl,Bh0 pw nm⟩
  clear pw;rintro _ s ⟨rfl,th⟩;refine Ix (fun e s'=>(e=[(2,.ptr 0 0 0),(3,.ptr 2 0 0),(4,.ptr 4 0 0),(5,iV (n:Int)),(6,.lst 1 [[.str [109,97,105,110]],[.str [116,49]],[.str [116,50]],[.str [116,51]]]),(7,iV (i:Int)),(8,.ptr s0.length 0 0)]\/∃ v,e=[(2,.ptr 0 0 0),(3,.ptr 2 0 0),(4,.ptr 4 0 0),(5,iV (n:Int)),(6,.lst 1 [[.str [109,97,105,110]],[.str [116,49]],[.str [116,50]],[.str [116,51]]]),(7,iV (i:Int)),(8,.ptr s0.length 0 0),(9,v)])/\∃ uB B,TH s0 s' nm u2 L uB B/\(∀ x∈B,SM 2 x)/\B.length<=3) ?_ ?_
  .intro k2 qe;by_cases qz:i=0;rotate_left
   .have f1:((i:Int)==0)=false:=by simp;omega
    simp only[go_sem,f1];exact qe _ _ ⟨.inl rfl,_,_,th,(fun x hx=>by cases hx),by simp⟩
   .have f1:((i:Int)==0)=true:=by simp[qz]
    simp only[go_sem,f1];refine Bh (α:=Nat × St × V × List Sp) (fun a=>n - a.1) (fun a=>[(2,.ptr 0 0 0),(3,.ptr 2 0 0),(4,.ptr 4 0 0),(5,iV (n:Int)),(6,.lst 1 [[.str [109,97,105,110]],[.str [116,49]],[.str [116,50]],[.str [116,51]]]),(7,iV (i:Int)),(8,.ptr s0.length 0 0),(9,iV (a.1:Int))]) (fun a=>a.2.1) (fun a=>(1<=a.1/\a.1<=n)/\TH s0 a.2.1 nm u2 L a.2.2.1 a.2.2.2/\(∀ x∈a.2.2.2,SM 2 x)/\a.2.2.2.length+1=a.1) ?_ (1,s,.nils,[]) ⟨by simp only;omega,th,(fun d hd=>by cases hd),rfl⟩;clear th s;rintro⟨j,s,uB,B⟩ ⟨hj,th,hB,qh⟩ ih;simp only at hj th hB qh ih;refine Az Bku ?_;rcases Bb j n with h3 | h3;rotate_left
    .simp only[go_sem,Bi h3];exact qe _ _ ⟨.inr ⟨_,rfl⟩,uB,B,th,hB,by omega⟩
    obtain⟨nj,qT,qB⟩:=Zg [[109,97,105,110],[116,49],[116,50],[116,51]] AD (j:=j) AJ;simp only[A2,Bz]at qT;obtain⟨u',s',ha,⟨c1,c2,c3⟩,r',-,th'⟩:=Alj th (y:=.lst 1 [(M4 12 nj).row]) (C:=[M4 12 nj]) rfl AJ;rw[Xl]at ha;have r1:=th.r;simp only[go_sem,Ar h3];refine Ad AD ?_;simp only[go_sem,r1,qT];refine Be ?_;simp only[go_sem,ha];refine Be ?_;simp only[go_sem,r',c1,c2,c3];refine Be ?_;simp only[go_sem,Ay (show j<9223372036854775807 by omega)];refine Am (ih (j+1,_,u',B++[M4 12 nj]) AH ⟨by simp only;omega,th',fun x hx=>?_,by rw[Aq,Hi,qh]⟩) rfl;rcases Ch.1 hx with hx | hx
    .exact hB x hx
    .rw[D4.1 hx];exact Abb AA qB
  clear th s;rintro e s ⟨he,uB,B,th,hB,qh⟩;refine Ix (fun e s'=>(e=[(2,.ptr 0 0 0),(3,.ptr 2 0 0),(4,.ptr 4 0 0),(5,iV (n:Int)),(6,.lst 1 [[.str [109,97,105,110]],[.str [116,49]],[.str [116,50]],[.str [116,51]]]),(7,iV (i:Int)),(8,.ptr s0.length 0 0)]\/∃ v,e=[(2,.ptr 0 0 0),(3,.ptr 2 0 0),(4,.ptr 4 0 0),(5,iV (n:Int)),(6,.lst 1 [[.str [109,97,105,110]],[.str [116,49]],[.str [116,50]],[.str [116,51]]]),(7,iV (i:Int)),(8,.ptr s0.length 0 0),(9,v)])/\∃ uB B,TH s0 s' nm u2 L uB B/\(∀ x∈B,SM 2 x)/\B.length<=8) ?_ ?_
  .intro k2 qe;obtain⟨_,_,_,_,_,_,_,m1,-⟩:=Aau th.pw;obtain⟨uH,hk⟩:=th.pw.hk;obtain⟨r,s2,q2,h2,w2,l2,rb,qY⟩:=Q2 hk 3 3 rfl AA;have qi:=Amn th h2 w2;have er:IntKind.i64.wrap (1+(r:Int))=((1+r:Nat):Int):=by rw[B7 AA];omega
   obtain⟨u,s3,q3,L3,jH,hO,qN,jg,h3,w3⟩:=(Aqj 2 AA 2 AA).2 s2 2 1 uH [] h2 AE (1+r) AA;have qM:=Amn qi h3 w3;obtain⟨u',s',ha,⟨c1,c2,c3⟩,r',qX,th'⟩:=Alj qM (C:=L3) (Bhz hO.1) AA;have m2:=qY.trans m1;obtain⟨_,_,_,_,_,_,_,m3,-⟩:=Aau qM.pw;have m4:=qX.trans m3;have r1:=th.r;have r2:=qi.r;have r3:=qM.r;have q3:Bt TT PT 42 [.ptr 2 0 0,iV 2,iV ((1+r:Nat):Int)] s2 u s3:=q3;rcases he with rfl | ⟨v,rfl⟩
   all_goals
    refine Ad AD ?_;simp only[go_sem,r1,m1];refine Id q2 ?_;simp only[go_sem,er];refine Id q3 ?_;simp only[go_sem,ha];refine Be ?_;simp only[go_sem,r',c1,c2,c3];refine Be ?_;simp only[go_sem]
   .exact qe _ _ ⟨.inl rfl,_,_,th',fun x hx=>(Ch.1 hx).elim (hB x) (qN x),by rw[Aq];omega⟩
   .exact qe _ _ ⟨.inr ⟨_,rfl⟩,_,_,th',fun x hx=>(Ch.1 hx).elim (hB x) (qN x),by rw[Aq];omega⟩
  clear th hB qh he uB B s e;rintro e s ⟨he,uB,B,th,hB,qh⟩;refine Ix (fun e s'=>(e=[(2,.ptr 0 0 0),(3,.ptr 2 0 0),(4,.ptr 4 0 0),(5,iV (n:Int)),(6,.lst 1 [[.str [109,97,105,110]],[.str [116,49]],[.str [116,50]],[.str [116,51]]]),(7,iV (i:Int)),(8,.ptr s0.length 0 0)]\/∃ v,e=[(2,.ptr 0 0 0),(3,.ptr 2 0 0),(4,.ptr 4 0 0),(5,iV (n:Int)),(6,.lst 1 [[.str [109,97,105,110]],[.str [116,49]],[.str [116,50]],[.str [116,51]]]),(7,iV (i:Int)),(8,.ptr s0.length 0 0),(9,v)])/\∃ uB B,TH s0 s' nm u2 L uB B/\(∀ x∈B,SM 2 x)/\B.length<=9) ?_ ?_
  .intro k2 qe;by_cases qz:i=0;rotate_left
   .have f1:((i:Int)==0)=false:=by simp;omega
    rcases he with rfl | ⟨v,rfl⟩
    all_goals simp only[go_sem,f1]
    .exact qe _ _ ⟨.inl rfl,_,_,th,hB,by omega⟩
    .exact qe _ _ ⟨.inr ⟨_,rfl⟩,_,_,th,hB,by omega⟩
   have f1:((i:Int)==0)=true:=by simp[qz]
   obtain⟨_,_,_,_,_,_,_,m1,-⟩:=Aau th.pw;obtain⟨uH,hk⟩:=th.pw.hk;obtain⟨r,s2,q2,h2,w2,l2,rb,qY⟩:=Q2 hk 3 3 rfl AA;have qi:=Amn th h2 w2;by_cases jq:r=2
   .subst jq;obtain⟨u',s',ha,⟨c1,c2,c3⟩,r',qX,th'⟩:=Alj qi (y:=.lst 1 [(M4 13 [116,49]).row]) (C:=[M4 13 [116,49]]) rfl AJ;rw[Xl]at ha;have r2:=qi.r;rcases he with rfl | ⟨v,rfl⟩
    all_goals
     simp only[go_sem,f1,m1];refine Aa q2 ?_;simp only[go_sem,C4,Int.reduceBEq];refine Ad AD ?_;simp only[go_sem,r2];refine Be ?_;simp only[go_sem,ha];refine Be ?_;simp only[go_sem,r',c1,c2,c3];refine Be ?_;simp only[go_sem]
    .exact qe _ _ ⟨.inl rfl,_,_,th',fun x hx=>(Ch.1 hx).elim (hB x) fun hx=>by rw[D4.1 hx];exact Abb AA (H1 AD),by rw[Aq,Hi];omega⟩
    .exact qe _ _ ⟨.inr ⟨_,rfl⟩,_,_,th',fun x hx=>(Ch.1 hx).elim (hB x) fun hx=>by rw[D4.1 hx];exact Abb AA (H1 AD),by rw[Aq,Hi];omega⟩
   .have fr:((r:Int)==2)=false:=by simp;omega
    rcases he with rfl | ⟨v,rfl⟩
    all_goals
     simp only[go_sem,f1,m1];refine Aa q2 ?_;simp only[go_sem,fr]
    .exact qe _ _ ⟨.inl rfl,_,_,qi,hB,by omega⟩
    .exact qe _ _ ⟨.inr ⟨_,rfl⟩,_,_,qi,hB,by omega⟩
  clear th hB qh he uB B s e;rintro e s ⟨he,uB,B,th,hB,qh⟩;obtain⟨s1,u',s2,e1,e2,⟨c1,c2,c3⟩,p2,qZ⟩:=Bh1 th AA;have r1:=th.r;have p1:=th.pw.p;have jw:V.cellB uB=true:=Bx th.g;rcases he with rfl | ⟨v,rfl⟩
  all_goals
   simp only[go_sem,r1,p1,jw,e1,e2,p2,c1,c2,c3]
  .exact qd _ _ ⟨.inl rfl,u',_,qZ,⟨qC,rfl,hB,by simp only;omega⟩,rfl⟩
  .exact qd _ _ ⟨.inr ⟨_,rfl⟩,u',_,qZ,⟨qC,rfl,hB,by simp only;omega⟩,rfl⟩
 clear pw s;rintro _ s ⟨⟨i,rfl⟩,u2,L,pw,hL,qj,jf,qk⟩;obtain⟨qE,qo⟩:=Avk (z1:=true) (t1:=0) (z2:=true) (t2:=0) hL qj jf qk;obtain⟨o1,c1⟩:=Axk pw.d;have o2:=I1 pw.g AA (Ui L) (Ac9 L);have c2:=Bx pw.g;obtain⟨_,q4,e4,l4,rfl⟩:=A78 (Dc qE.blk AA) qE.ln qo;have p1:=pw.p;have z1:=pw.z;have qa:Gp.row ⟨true,0,declsL,true,0,L⟩=[SL true 0 (declsL.map Dp.row),SL true 0 (L.map Tp.row)]:=rfl;rw[qa]at q4;simp only[go_sem,p1];refine Aya (.cons (Sw (.cons o1 (.cons o2 .nil))) .nil) q4 AK ?_;by_cases h0:e4=0
 .have f1:(e4==0)=true:=by simp[h0]
  simp only[go_sem,bne,f1,Ba,p1,z1,c1,c2];have z5:(s.set 0 (.row [.sl 3 0 0 9 6 true,u2] 29 0 0))[0]?=some (.row [.sl 3 0 0 9 6 true,u2] 29 0 0):=Bv (by have:=pw.l5;omega);refine⟨_,_,true,0,true,0,declsL,L,Vp z5 rfl rfl,Axk (by rw[Bk AA];exact pw.d),⟨?_,c2⟩,qE⟩;exact I1 (Gu pw.g fun j hj=>Bk fun e=>by have:=(C1 pw.g j hj).1;omega) AA (Ui L) (Ac9 L)
 .have f1:(e4==0)=false:=by simp[h0]
  have ja:=Wb [120] (Gn 1);simp only[Gn,SL,Bz,and_self,true_and,if_true]at ja;have jG:=pw.l5;simp only[go_sem,bne,f1,Bd];refine Jf (Apa _) ?_;simp only[go_sem];refine Ab (Agz _) AK ?_;simp only[go_sem];refine Ab ja AK ?_;have z6:=Bs (l:=([.row (declsL.map Dp.row).flatten 86 0 0]:St)) z1;simp only[go_sem,z6];have z5:((s++([.row (declsL.map Dp.row).flatten 86 0 0]:St)).set 0 (.row [.sl s.length 0 0 9 6 true,.lst 1 [[.str [109,97,105,110],iV 0,.lst 1 [[.str [97]],[.str [98]]],.lst 1 [[iV 1,iV 0,.str [120],.str [],.nils,iV 1,iV 1,.str [],.nils,.nils,.nils]]]]] 29 0 0))[0]?=some (.row [.sl s.length 0 0 9 6 true,.lst 1 [[.str [109,97,105,110],iV 0,.lst 1 [[.str [97]],[.str [98]]],.lst 1 [[iV 1,iV 0,.str [120],.str [],.nils,iV 1,iV 1,.str [],.nils,.nils,.nils]]]]] 29 0 0):=Bv AE;have hM:Rv ⟨[109,97,105,110],0,true,1,[[97],[98]],true,1,[M3 [120] (Gn 1)]⟩:=⟨H1 AD,rfl,fun s hs=>by rw[D4.1 hs];exact Amm (H1 AD) Bh4,by simp⟩;obtain⟨qF,-⟩:=Avk (z1:=true) (t1:=0) (z2:=true) (t2:=1) (L:=[⟨[109,97,105,110],0,true,1,[[97],[98]],true,1,[M3 [120] (Gn 1)]⟩]) (fun t ht=>by rw[D4.1 ht];exact hM) AE AE AE;refine⟨.sl s.length 0 0 9 6 true,.lst 1 [[.str [109,97,105,110],iV 0,.lst 1 [[.str [97]],[.str [98]]],.lst 1 [[iV 1,iV 0,.str [120],.str [],.nils,iV 1,iV 1,.str [],.nils,.nils,.nils]]]],true,0,true,1,declsL,[⟨[109,97,105,110],0,true,1,[[97],[98]],true,1,[M3 [120] (Gn 1)]⟩],Vp z5 rfl rfl,⟨?_,rfl⟩,⟨?_,rfl⟩,qF⟩
  .have h3:(s++([.row (declsL.map Dp.row).flatten 86 0 0]:St))[s.length]?=some (.row (declsL.map Dp.row).flatten 86 0 0):=by simp
   exact Pz (xs:=declsL.map Dp.row) (by rw[Bk AA];exact h3) AA (Ac8 declsL) (Aio declsL)
  .have hr:SL true 1 ([(⟨[109,97,105,110],0,true,1,[[97],[98]],true,1,[M3 [120] (Gn 1)]⟩:Tp)].map Tp.row)=.lst 1 [[.str [109,97,105,110],iV 0,.lst 1 [[.str [97]],[.str [98]]],.lst 1 [[iV 1,iV 0,.str [120],.str [],.nils,iV 1,iV 1,.str [],.nils,.nils,.nils]]]]:=by
    simp only[A2,Bz,Tp.row,Afn];rfl
   rw[hr];exact Em rfl
def Hh(l:List UInt8):Nat:=l.count 10
def Jl(a b:List UInt8):Hh (a++b)=Hh a+Hh b:=List.count_append
def La(c:UInt8)(l:List UInt8):Hh (c::l)=Hh l+if c=10 then 1 else 0:=by
 unfold Hh;rw[List.count_cons]
 by_cases h:c=10<;>simp[h]
def Bc3{l:List UInt8}(h:∀ c∈l,c≠10):Hh l=0:=List.count_eq_zero.2 fun hm=>h 10 hm rfl
mutual
def Sp.lns:Sp->Nat
 | ⟨op,_,_,_,_,_,_,_,_,_,body,_,_,els⟩=>1+(if B3 op then 1+Sp.lnss body else 0)+(if els.isEmpty then 0 else 1+Sp.lnss els)
def Sp.lnss:List Sp->Nat
 | []=>0
 | x::l=>x.lns+Sp.lnss l
end
def Bh5{l:List UInt8}{j:Nat}(h:Jx l j=true):l.getD j 0≠10:=fun e=>by
 unfold Jx at h;rw[e]at h
 cases j<;>simp[Md,Rk]at h
def Agc{l:List UInt8}(h:B0 l=true):Hh l=0:=by
 refine Bc3 fun c hc=>?_
 obtain⟨i,hi,rfl⟩:=M7 hc;unfold B0 at h;simp only[Ak,B6]at h;have:=Bh5 (h.2.2.2 i (Gw.2 hi))
 rwa [E0,Cd hi]at this
def Alk:∀ (k u:Nat),Hh (O6 k u)=0
 | 0,_=>rfl
 | k+1,u=>by
  have hd:∀ n,n<10->Hh [UInt8.ofNat (48+n)]=0:=by decide
  unfold O6
  split
  .exact hd u AA
  .rw[Jl,Alk k,hd _ AA]
def Bc4(n:Int):Hh (C0 n)=0:=by
 unfold C0
 split
 .rw[La,Alk];decide
 .exact Alk _ _
def Ay0(op:Int):Hh (Cq op)=0:=by
 unfold Cq
 split<;>decide
def All{o:Int × List UInt8}(h:Hh o.2=0)(v:Int):Hh (Ec o v)=0:=by
 unfold Ec
 split
 .rw[La,Jl,h];decide
 .exact h
def Axl{x:Xp}(h:ShE x):Hh x.txt=0:=by
 induction h with
 | num h=>
  rw[F3];simp only[Eh,if_pos];exact Bc4 _
 | name h=>
  rw[F3];simp only[Eh];exact Agc h
 | idx hn ha ih=>
  rw[F3];simp only[Eh,A2,Bz];simp only[Int.reduceEq,if_false,if_true];rw[Jl,La,Jl,Agc hn,ih];decide
 | @un op z t a ho ha ih=>
  rw[F3];simp only[Eh,A2,Bz];rw[if_neg AA,if_neg AA,if_neg AA,Jl,Ay0,All ih]
 | @bin op z t a b ho ha hb iha ihb=>
  rw[F3];simp only[Eh,A2,Bz];rw[if_neg AA,if_neg AA,Jl,La,Jl,La,Ay0,All iha,All ihb];decide
def Z4(op:Int):Hh (C7 op)=0:=by
 unfold C7
 split<;>decide
def Bc5{s:Sp}(h:ShS s):Hh (Ct s)=0:=by
 obtain⟨h1,h2,h3,h4,h5,h6,h7,h8,h9,jA,jB,jC,jD,jE⟩:=h
 have hn:Hh s.nm=0:=by
  cases e:Gx s.op
  .exact Agc (h3 e)
  .rw[h2 e];rfl
 have ha:Hh s.arg=0:=by
  by_cases e:s.op=15
  .exact Agc (h4 e)
  .rw[h5 e];rfl
 have hx:Fg s.op=true->Hh s.ex.txt=0:=fun e=>Axl (h9 e)
 have hi:Hh (Gi s.idx)=0:=by
  unfold Gi
  split
  .rename_i a r e;rw[La,Jl,Axl (h8 a (by rw[e];simp))];decide
  .rfl
 unfold Ct
 split
 .rename_i e;rw[Jl,Jl,La,La,La,hn,hi,hx (by rw[e];rfl)];decide
 split
 .rename_i e;rw[Jl,La,Z4,hx (by rcases e with e | e<;>rw[e]<;>rfl)];decide
 split
 .exact Z4 _
 split
 .rename_i e;rw[Jl,La,Jl,La,Z4,hn,hx (by rw[e];rfl)];decide
 split
 .rw[Jl,La,Jl,La,Z4,hn,ha];decide
 .rw[Jl,La,Z4,hn];decide
def ixU(c:UInt8):∀ (a r:List UInt8),c ∉ a->Lib.index (a++c::r) [c]=(a.length:Int)/\Lib.indexByte (a++c::r) c=(a.length:Int)
 | [],r,_=>by
  have hp:List.isPrefixOf [c] (c::r)=true:=by simp[List.isPrefixOf]
  constructor
  .rw[Ci];unfold Lib.index;rw[hp];rfl
  .rw[Ci,Lib.indexByte];simp
 | b::a,r,h=>by
  have hb:(c==b)=false:=by simp at h ⊢;exact h.1
  have qv:(b==c)=false:=by simp at h ⊢;exact fun e=>h.1 e.symm
  obtain⟨h1,h2⟩:=ixU c a r (by simp at h;exact h.2);have hp:List.isPrefixOf [c] (b::(a++c::r))=false:=by simp[List.isPrefixOf]at hb ⊢;exact hb
  have hn:((a.length:Int) == -1)=false:=by simp
  constructor
  .rw[Jb];unfold Lib.index;rw[hp,h1];simp only[Hj,if_false,hn,Bg];omega
  .rw[Jb,Lib.indexByte,h2];simp only[qv,Hj,if_false,hn,Bg];omega
def Bo3{c:UInt8}{a r:List UInt8}(h:c ∉ a):Lib.cut (a++c::r) [c]=(a,r,true):=by
 have hi:=(ixU c a r h).1;unfold Lib.cut;rw[hi,if_pos AA];simp
def Ex(s:Sp):List UInt8:=Ct s++if B3 s.op then [32,123] else [59]
mutual
def Sp.hds:Sp->List (List UInt8)
 | ⟨op,line,nm,arg,iz,it,idx,ex,bz,bt,body,ez,et,els⟩=>Ex ⟨op,line,nm,arg,iz,it,idx,ex,bz,bt,body,ez,et,els⟩::(Sp.hdss body++Sp.hdss els)
def Sp.hdss:List Sp->List (List UInt8)
 | []=>[]
 | x::l=>x.hds++Sp.hdss l
end
def Axm(s:Sp):s.hds=Ex s::(Sp.hdss s.body++Sp.hdss s.els):=by
 cases s;rw[Sp.hds]
mutual
theorem Bc6:∀ s:Sp,s.hds.length=s.sz
 | ⟨op,line,nm,arg,iz,it,idx,ex,bz,bt,body,ez,et,els⟩=>by
  rw[Axm,Nk];simp only[Bg,Aq];rw[Je body,Je els];omega
theorem Je:∀ l:List Sp,(Sp.hdss l).length=Sp.szs l
 | []=>rfl
 | x::l=>by rw[Sp.hdss,Sp.szs,Aq,Bc6 x,Je l]
end
def Avl{s:Sp}(h:ShS s):(10:UInt8) ∉ Ex s:=by
 have h0:Hh (Ex s)=0:=by
  unfold Ex;rw[Jl,Bc5 h]
  split<;>decide
 exact List.count_eq_zero.1 h0
def Ani(s:Sp):∃ r,s.txt 0=Ex s++10::r:=by
 rw[Nd];unfold Ex
 split
 .exact⟨Sp.txts (0+1) s.body++((if s.els.isEmpty then [] else Ep 0++125::32::101::108::115::101::32::123::10::Sp.txts (0+1) s.els)++(Ep 0++[125,10])),by simp[Ep]⟩
 .exact⟨[],by simp[Ep]⟩
def I2(s:Sp):Sp:=⟨s.op,s.line,s.nm,s.arg,s.iz,s.it,s.idx,s.ex,true,0,[],true,0,[]⟩
def A4n(s:Sp):Ex (I2 s)=Ex s:=rfl
def Bc7{s:Sp}(h:CnS s):CnS (I2 s):=by
 cases h with
 | mk h1 h2 h3 h4 h5 h6 h7 h8 h9=>exact .mk h1 h2 h3 h4 h5 (fun _=>rfl) (fun _=>rfl) (fun x hx=>by cases hx) (fun x hx=>by cases hx)
def A8e(s:Sp):(∃ r,(I2 s).txt 0=Ex s++10::r)/\((I2 s).txt 0).length<=(Ex s).length+10:=by
 refine⟨A4n s ▸ Ani (I2 s),?_⟩;rw[Nd];unfold Ex;have:(I2 s).op=s.op:=rfl;have h2:Ct (I2 s)=Ct s:=rfl;rw[this,h2]
 split
 .simp[Ep,I2,Sp.txts]
 .simp[Ep]
mutual
theorem A8f:∀ (s:Sp) (d d':Nat),d<=d'->(s.txt d).length<=(s.txt d').length
 | ⟨op,line,nm,arg,iz,it,idx,ex,bz,bt,body,ez,et,els⟩,d,d',h=>by
  have h1:=Wl body (d+1) (d'+1) AA;have h2:=Wl els (d+1) (d'+1) AA;rw[Nd,Nd];simp only[Aq,K9]
  split
  .cases els<;>simp[K9]at h2 ⊢<;>omega
  .simp;omega
theorem Wl:∀ (l:List Sp) (d d':Nat),d<=d'->(Sp.txts d l).length<=(Sp.txts d' l).length
 | [],_,_,_=>by simp[Sp.txts]
 | x::l,d,d',h=>by
  have h1:=A8f x d d' h;have h2:=Wl l d d' h;rw[Oj,Oj,Aq,Aq];omega
end
def Avm(s:Sp):(Ex s).length+1<=(s.txt 0).length:=by
 obtain⟨r,hr⟩:=Ani s;rw[hr];simp
def Bc8{s:Sp}(h:B3 s.op=true):(Ex s).length+(Sp.txts 0 s.body).length+(Sp.txts 0 s.els).length<=(s.txt 0).length:=by
 have h1:=Wl s.body 0 1 AA;have h2:=Wl s.els 0 1 AA;rw[Nd,if_pos h];unfold Ex;rw[if_pos h]
 cases he:s.els with
 | nil=>rw[he]at h2;simp[Ep,Sp.txts]at h2 ⊢;omega
 | cons a l=>rw[he]at h2;simp[Ep]at h2 ⊢;omega
def As9(X:List (List UInt8)):∀ r∈X.map fun x=>[V.str x],r.length=1:=fun r hr=>by obtain⟨x,-,rfl⟩:=Cs.1 hr;rfl
def Ata(X:List (List UInt8)):∀ r∈X.map fun x=>[V.str x],r.all V.rowB=true:=fun r hr=>by obtain⟨x,-,rfl⟩:=Cs.1 hr;rfl
structure GL (lo:Nat) (σ τ:St) (u v:V) (X:List (List UInt8)):Prop where
 len:σ.length<=τ.length
 g:GW τ 1 9 lo v (X.map fun x=>[V.str x])
 kp:∀ j,j<σ.length->j ∉ u.refs->τ[j]?=σ[j]?
 rf:∀ j∈v.refs,j∈u.refs\/σ.length<=j
 cl:Cl τ
def Avn{lo:Nat}{σ:St}{u:V}{X:List (List UInt8)}(h:GW σ 1 9 lo u (X.map fun x=>[V.str x]))(hc:Cl σ):GL lo σ σ u u X:=⟨An _,h,fun _ _ _=>rfl,fun _ hj=>.inl hj,hc⟩
def Zj{lo:Nat}{σ τ υ:St}{u v w:V}{X Y:List (List UInt8)}(h:GL lo σ τ u v X)(h':GL lo τ υ v w Y):GL lo σ υ u w Y:=by
 refine⟨Dc h.len h'.len,h'.g,fun j hj hn=>?_,fun j hj=>?_,h'.cl⟩
 .rw[h'.kp j (by have:=h.len;omega) fun e=>?_,h.kp j hj hn];rcases h.rf j e with h2 | h2
  .exact hn h2
  .omega
 .rcases h'.rf j hj with h2 | h2
  .exact h.rf j h2
  .exact .inr (by have:=h.len;omega)
def Avo{lo:Nat}{σ τ:St}{u v:V}{X:List (List UInt8)}(h:GL lo σ τ u v X)(l:St)(hc:Cl (τ++l)):GL lo σ (τ++l) u v X:=
 ⟨by rw[Aq];have:=h.len;omega,H0 h.g,fun j hj hn=>by rw[C3 (by have:=h.len;omega)];exact h.kp j hj hn,h.rf,hc⟩
def Axn{lo:Nat}{σ τ:St}{u v:V}{X:List (List UInt8)}(h:GL lo σ τ u v X)(qg:lo<=σ.length)(s:List UInt8)(hb:X.length<=1000000000):∃ v' τ',Dz 16 (1,9) v (.lst 1 [[.str s]]) τ=some (v',τ')/\v'.cellB=true/\GL lo σ τ' u v' (X++[s])/\∀ j,j<τ.length->j ∉ v.refs->τ'[j]?=τ[j]?:=by
 obtain⟨v',τ',h1,h2,h3,h4,h5,h6⟩:=Mp (bytes:=16) (y:=.lst 1 [[.str s]]) (ys:=[[.str s]]) h.g (by have:=h.len;omega) rfl AA (As9 X) AE AQ (by rw[Aj];simp;omega);refine⟨v',τ',h1,Bx h2,Zj h ⟨h3,by rw[Dl];exact h2,h4,h5,h6 h.cl⟩,h4⟩
def N3(f:Nat)(l:List Sp):Prop:=∀ (lo:Nat) (σ:St) (u:V) (X:List (List UInt8)) (z:Bool) (t:Nat),GW σ 1 9 lo u (X.map fun x=>[V.str x])->lo<=σ.length->Cl σ->X.length+Sp.szs l<=1000000000 ->
  ∃ v τ,Bt TT PT f [u,SL z t (l.map Sp.row)] σ v τ/\GL lo σ τ u v (X++Sp.hdss l)
structure TxL (l:List Sp):Prop where
 sh:∀ x∈l,ShS x
 len:(Sp.txts 0 l).length<=2000000000
def Akj{l:List Sp}(h:TxL l){x:Sp}(hx:x∈l):ShS x/\(x.txt 0).length<=2000000000/\TxL x.body/\TxL x.els:=by
 have h1:=h.sh x hx;have h2:=Y3 0 hx;have h3:=h.len;refine⟨h1,by omega,?_⟩
 cases h1 with
 | mk a1 a2 a3 a4 a5 a6 a7 a8 a9 a10 a11 a12 a13 a14=>
  cases hb:B3 x.op
  .have e1:x.body=[]:=a11 hb;have e2:x.els=[]:=a12 fun e=>by rw[e]at hb;cases hb
   rw[e1,e2];exact⟨⟨(fun x hx=>by cases hx),by simp[Sp.txts]⟩,⟨(fun x hx=>by cases hx),by simp[Sp.txts]⟩⟩
  .have:=Bc8 hb;exact⟨⟨a13,by omega⟩,⟨a14,by omega⟩⟩
def Aql{l:List Sp}{i:Nat}{y:Sp}(h:l.drop i=y::l.drop (i+1)):Sp.hdss (l.drop i)=Ex y::(Sp.hdss y.body++(Sp.hdss y.els++Sp.hdss (l.drop (i+1)))):=by
 rw[h,Sp.hdss,Axm];simp
def A8g(y:Sp):(I2 y).row=[iV y.op,iV y.line,.str y.nm,.str y.arg,SL y.iz y.it (y.idx.map Xp.row),iV y.ex.op,iV y.ex.n,.str y.ex.nm,SL y.ex.z y.ex.t (y.ex.l.map Xp.row),.nils,.nils]:=by
 rw[Fq];rfl
def Afp:∀ l:List Sp,l.length<=Sp.szs l
 | []=>Av _
 | x::l=>by
  have h1:=Afp l;have h2:=Nk x;rw[Bg,Sp.szs];omega
set_option maxHeartbeats 4000000 in
def A8h{l:List Sp}(hl:TxL l)(ih:∀ x∈l,N3 82 x.body/\N3 82 x.els):N3 82 l:=by
 intro lo σ u X z t hg qg hc hX;have qf:(l.map Sp.row).length=l.length:=Aj ..;refine Adt T82 rfl ?_;simp only[go_sem,qf];refine Bh (α:=Nat × St × V × List (List UInt8)) (fun a=>l.length - a.1) (fun a=>[(0,a.2.2.1),(9,SL z t (l.map Sp.row)),(10,iV (l.length:Int)),(11,iV (a.1:Int))]) (fun a=>a.2.1) (fun a=>a.1<=l.length/\GL lo σ a.2.1 u a.2.2.1 a.2.2.2/\a.2.2.2++Sp.hdss (l.drop a.1)=X++Sp.hdss l) ?_ (0,σ,u,X) ⟨Av _,Avn hg hc,rfl⟩;rintro⟨i,s,v,Y⟩ ⟨hi,hG,hY⟩ jh;simp only at hi hG hY jh;have qu:=congrArg List.length hY;rw[Aq,Aq,Je,Je]at qu;have qc:=Bx hG.g;refine Az Bmg ?_;rcases Bb i l.length with h' | h';rotate_left
 .rw[Dt h',Sp.hdss,Bw]at hY;subst hY;simp only[go_sem,Bi h'];exact⟨v,rfl,⟨by cases v<;>simp[V.cellB]at qc<;>rfl,fun j hj=>(C1 hG.g j hj).2⟩,⟨hG.len,hG.cl⟩,hG⟩
 obtain⟨y,hy,hd,hm⟩:=Bl h';obtain⟨qn,jv,ji,qv⟩:=Akj hl hm;have jm:=Afp l;have qa:=Fq y;have qb:=Hg y;have hq:=Asf (Ak8 qn) 0 AA;obtain⟨r,hr⟩:=Ani y;have qS:=(ixU 10 (Ex y) r (Avl qn)).2;rw[<-hr]at qS;have jl:=Avm y
 have jz:Ts [.str (y.txt 0),.int .u8 10]=some (iV ((Ex y).length:Int)):=by
  show some (iV (Lib.indexByte (y.txt 0) 10))=_;rw[qS]
 obtain⟨s1,e1⟩:∃ s1:St,s1=s++[.row y.row 104 0 0]:=⟨_,rfl⟩;have k1:s1[s.length]?=some (.row y.row 104 0 0):=by rw[e1];simp
 have G1:GL lo σ s1 u v Y:=by rw[e1];exact Avo hG _ (Jj hG.cl qb)
 have qr:∀ j∈v.refs,j<s.length:=fun j hj=>(C1 hG.g j hj).2
 have qw:=Aql hd;rw[qw]at hY;have qo:Sp.szs (l.drop i)=y.sz+Sp.szs (l.drop (i+1)):=by rw[hd,Sp.szs]
 have jx:=Nk y;obtain⟨v2,s2,ha,jj,G2,qL⟩:=Axn G1 qg (Ex y) AA;have k2:s2[s.length]?=_:=(qL s.length (by rw[e1];simp) fun e=>by have:=qr _ e;omega).trans k1
 have n2:s.length ∉ v2.refs:=fun e=>by
  have h9:∀ j∈v2.refs,j∈v.refs\/s1.length<=j:=by
   obtain⟨q1,-⟩:=Afo ha rfl AQ (Ajg G1.g);exact q1
  rcases h9 _ e with h8 | h8
  .have:=qr _ h8;omega
  .rw[e1]at h8;simp at h8;omega
 obtain⟨v3,s3,q3,G3⟩:=(ih y hm).1 lo s2 v2 (Y++[Ex y]) y.bz y.bt G2.g (by have:=G2.len;omega) G2.cl (by rw[Aq,Hi];omega);have l2:s.length<s2.length:=(Al.1 k2).1;have k3:s3[s.length]?=_:=(G3.kp s.length l2 n2).trans k2
 have n3:s.length ∉ v3.refs:=fun e=>by
  rcases G3.rf _ e with h8 | h8
  .exact n2 h8
  .omega
 have l3:s.length<s3.length:=(Al.1 k3).1;obtain⟨v4,s4,q4,G4⟩:=(ih y hm).2 lo s3 v3 (Y++[Ex y]++Sp.hdss y.body) y.ez y.et G3.g (by have:=G2.len;have:=G3.len;omega) G3.cl (by rw[Aq,Aq,Hi,Je];omega);have G14:=Zj G2 (Zj G3 G4);rw[qa]at e1 k1 k2 k3 hq qb;have f0:(0<=((Ex y).length:Int))=True:=eq_true AA;have jb:((Ex y).length<=(y.txt 0).length)=True:=eq_true AA;have jd:(y.txt 0).take (Ex y).length=Ex y:=by rw[hr];simp
 rw[Int.natCast_zero]at hq;simp only[go_sem,Ar h',Ai,hy,qa];rw[<-e1];refine Ab hq AB ?_;simp only[go_sem];refine Fu P101 AB jz ?_;simp only[go_sem,ge_iff_le,f0,jb,jd,ha,k2];refine Aa q3 ?_;simp only[go_sem,k3];refine Aa q4 ?_;simp only[go_sem,Ay (show i<9223372036854775807 by omega)];refine Am (jh (i+1,s4,v4,Y++[Ex y]++Sp.hdss y.body++Sp.hdss y.els) AH ⟨h',G14,by rw[<-hY];simp⟩) rfl
set_option maxHeartbeats 4000000 in
def A8i{l:List Sp}(hl:TxL l)(ih:∀ x∈l,N3 80 x.body/\N3 80 x.els):N3 80 l:=by
 intro lo σ u X z t hg qg hc hX;have qf:(l.map Sp.row).length=l.length:=Aj ..;refine Adt T80 rfl ?_;simp only[go_sem,qf];refine Bh (α:=Nat × St × V × List (List UInt8)) (fun a=>l.length - a.1) (fun a=>[(0,a.2.2.1),(11,SL z t (l.map Sp.row)),(12,iV (l.length:Int)),(13,iV (a.1:Int))]) (fun a=>a.2.1) (fun a=>a.1<=l.length/\GL lo σ a.2.1 u a.2.2.1 a.2.2.2/\a.2.2.2++Sp.hdss (l.drop a.1)=X++Sp.hdss l) ?_ (0,σ,u,X) ⟨Av _,Avn hg hc,rfl⟩;rintro⟨i,s,v,Y⟩ ⟨hi,hG,hY⟩ jh;simp only at hi hG hY jh;have qu:=congrArg List.length hY;rw[Aq,Aq,Je,Je]at qu;have qc:=Bx hG.g;refine Az Bmd ?_;rcases Bb i l.length with h' | h';rotate_left
 .rw[Dt h',Sp.hdss,Bw]at hY;subst hY;simp only[go_sem,Bi h'];exact⟨v,rfl,⟨by cases v<;>simp[V.cellB]at qc<;>rfl,fun j hj=>(C1 hG.g j hj).2⟩,⟨hG.len,hG.cl⟩,hG⟩
 obtain⟨y,hy,hd,hm⟩:=Bl h';obtain⟨qn,jv,ji,qv⟩:=Akj hl hm;have jm:=Afp l;have qa:=Fq y;have qb:=Hg y;have qO:=A8g y;have qP:=Hg (I2 y);obtain⟨⟨r,hr⟩,jF⟩:=A8e y;have jl:=Avm y;have hq:=A7s (Bc7 (Ak8 qn)) 0 AA (by rw[Nk];simp[I2,Sp.szs]);have qQ:=Bo3 (c:=10) (r:=r) (Avl qn);rw[<-hr]at qQ
 have jy:Abi [.str ((I2 y).txt 0),.str [10]]=some (.tup [.str (Ex y),.str r,.bool true]):=by
  show(if((I2 y).txt 0).length<4294967281 then some (V.tup [.str (Lib.cut ((I2 y).txt 0) [10]).1,.str (Lib.cut ((I2 y).txt 0) [10]).2.1,.bool (Lib.cut ((I2 y).txt 0) [10]).2.2]) else none)=_;rw[if_pos AA,qQ]
 have c1:Cl (s++[.row y.row 104 0 0,.row (I2 y).row 104 0 0]):=by
  have:=Jj (t:=104) (Jj (t:=104) hG.cl qb) qP;simpa using this
 obtain⟨s1,e1⟩:∃ s1:St,s1=s++[.row y.row 104 0 0,.row (I2 y).row 104 0 0]:=⟨_,rfl⟩;have k1:s1[s.length]?=some (.row y.row 104 0 0):=by rw[e1];simp
 have l1:s1.length=s.length+2:=by rw[e1];simp
 have G1:GL lo σ s1 u v Y:=by rw[e1];exact Avo hG _ c1
 have qr:∀ j∈v.refs,j<s.length:=fun j hj=>(C1 hG.g j hj).2
 have qw:=Aql hd;rw[qw]at hY;have qo:Sp.szs (l.drop i)=y.sz+Sp.szs (l.drop (i+1)):=by rw[hd,Sp.szs]
 have jx:=Nk y;obtain⟨v2,s2,ha,jj,G2,qL⟩:=Axn G1 qg (Ex y) AA;have k2:s2[s.length]?=_:=(qL s.length AA fun e=>by have:=qr _ e;omega).trans k1
 have n2:s.length ∉ v2.refs:=fun e=>by
  have h9:∀ j∈v2.refs,j∈v.refs\/s1.length<=j:=by
   obtain⟨q1,-⟩:=Afo ha rfl AQ (Ajg G1.g);exact q1
  rcases h9 _ e with h8 | h8
  .have:=qr _ h8;omega
  .omega
 obtain⟨v3,s3,q3,G3⟩:=(ih y hm).1 lo s2 v2 (Y++[Ex y]) y.bz y.bt G2.g (by have:=G2.len;omega) G2.cl (by rw[Aq,Hi];omega);have l2:s.length<s2.length:=(Al.1 k2).1;have k3:s3[s.length]?=_:=(G3.kp s.length l2 n2).trans k2;obtain⟨v4,s4,q4,G4⟩:=(ih y hm).2 lo s3 v3 (Y++[Ex y]++Sp.hdss y.body) y.ez y.et G3.g (by have:=G2.len;have:=G3.len;omega) G3.cl (by rw[Aq,Aq,Hi,Je];omega);have G14:=Zj G2 (Zj G3 G4);rw[qa,qO]at e1;rw[qa]at k1 k2 k3 qb;rw[qO]at hq qP;rw[Int.natCast_zero]at hq;simp only[go_sem,Ar h',Ai,hy,qa];rw[<-e1];refine Ab hq AB ?_;simp only[go_sem];refine Fu P127 AB jy ?_;simp only[go_sem,ha,k2];refine Aa q3 ?_;simp only[go_sem,k3];refine Aa q4 ?_;simp only[go_sem,Ay (show i<9223372036854775807 by omega)];refine Am (jh (i+1,s4,v4,Y++[Ex y]++Sp.hdss y.body++Sp.hdss y.els) AH ⟨h',G14,by rw[<-hY];simp⟩) rfl
def Afq{f:Nat}(hs:∀ l,TxL l->(∀ x∈l,N3 f x.body/\N3 f x.els)->N3 f l):∀ (N:Nat) (l:List Sp),TxL l->Sp.szs l<=N->N3 f l
 | 0,l,h,hz=>hs l h fun x hx=>by
  have:=Zz hx;have:=Nk x;omega
 | N+1,l,h,hz=>hs l h fun x hx=>by
  obtain⟨-,-,h1,h2⟩:=Akj h hx;have:=Zz hx;have:=Nk x;exact⟨Afq hs N _ h1 AA,Afq hs N _ h2 AA⟩
def Bh6{l:List Sp}(h:TxL l):N3 82 l:=Afq (fun _=>A8h) _ l h (An _)
def Bh7{l:List Sp}(h:TxL l):N3 80 l:=Afq (fun _=>A8i) _ l h (An _)
def Co(t:Tp):List V:=[SL true 0 ((Sp.hdss t.body).map fun x=>[V.str x])]
def Atb{σ:St}{lo e:Nat}{u:V}{X:List (List UInt8)}(h:GW σ 1 e lo u (X.map fun x=>[V.str x])):
  ∃ σ',Py 1 1 σ [u]=some (.lst 1 [[SL true 0 (X.map fun x=>[V.str x])]],σ')/\σ'.length=σ.length/\(∀ j,j ∉ u.refs->σ'[j]?=σ[j]?)/\(Cl σ->Cl σ'):=by
 have jo:=I1 h AA (As9 X) (Ata X);have hr:Ah [u]=u.refs:=by simp[Ah]
 have jt:=jo (Fy σ 9 u.refs.eraseDups) (fun i hi=>Ml σ 9 _ i (Pe.2 hi)) 7;unfold Py;rw[hr];simp only[J1,Acf,jt];refine⟨_,rfl,Qv _ _,fun j hj=>Xk _ _ _ fun hm=>?_,Xw _ _⟩;rcases h with⟨rfl,-⟩ | ⟨hn,i,g,rfl,ho,qg⟩
 .simp[V.refs,Fy]at hm
 .have:Fy σ 9 (V.refs (.sl i g 0 (X.map fun x=>[V.str x]).length 1 true)).eraseDups=[i]:=by
   have e1:(V.refs (.sl i g 0 (X.map fun x=>[V.str x]).length 1 true)).eraseDups=[i]:=by simp[V.refs,List.eraseDups_cons]
   rw[e1];have hx:Ah (X.map fun x=>[V.str x]).flatten=[]:=Ff (Gl (Ata X));simp[Fy,ho,Ob.refs,hx]
  rw[this]at hm;exact hj (by simpa[V.refs] using hm)
structure PX (p:Gp):Prop where
 few:p.thrs.length<=100000000
 tx:∀ t∈p.thrs,TxL t.body
 sz:∀ t∈p.thrs,Sp.szs t.body<=10000
def Bnm{p:Gp}(h:ShG p)(hl:(Ij p).length<=1000000000)(hs:∀ t∈p.thrs,Sp.szs t.body<=10000):PX p:=by
 have qR:((p.thrs.map Fw).flatten).length<=(Ij p).length:=by unfold Ij;simp
 have ql:∀ (L:List Tp),10*L.length<=((L.map Fw).flatten).length/\∀ t∈L,(Fw t).length<=((L.map Fw).flatten).length:=fun L=>by
  induction L with
  | nil=>exact⟨by simp,fun t ht=>by cases ht⟩
  | cons a l ih=>
   have h1:10<=(Fw a).length:=by unfold Fw;simp;omega
   refine⟨by simp;have:=ih.1;simp at this;omega,fun t ht=>?_⟩;rcases Bo.1 ht with rfl | ht
   .simp
   .have:=ih.2 t ht;simp at this ⊢;omega
 refine⟨by have:=(ql p.thrs).1;omega,fun t ht=>⟨h.thrs t ht,?_⟩,hs⟩;have h1:=(ql p.thrs).2 t ht;have h2:=Wl t.body 0 1 AA;have h3:(Sp.txts 1 t.body).length<=(Fw t).length:=by unfold Fw;simp;omega
 omega
def Afr(L:List Tp):∀ r∈L.map Co,r.length=1:=fun r hr=>by obtain⟨x,-,rfl⟩:=Cs.1 hr;rfl
def Afs(L:List Tp):∀ r∈L.map Co,r.all V.rowB=true:=fun r hr=>by
 obtain⟨x,-,rfl⟩:=Cs.1 hr;simp only[Co,Bp,Ce,G8];rfl
def D7(x:Gp):x.row=(gR x):=rfl
def P5(t:Tp):t.row=(tR t):=rfl
def P6(x:Gp):x.row.all V.rowB=true:=by
 unfold Gp.row;simp only[Bp,Ce,G8];rfl
def Ay1(x:Tp):x.row.all V.rowB=true:=by
 rw[P5];simp only[Bp,Ce,G8];rfl
def Avp{σ:St}{lo m e bytes:Nat}{u:V}{xs:List (List V)}{row:List V}(h:GV σ m e lo u xs)(qg:lo<=σ.length)(hm:0<m)(hl:∀ r∈xs,r.length=m)(js:row.length=m)(hr:row.all V.rowB=true)(hb:(xs.length+1)*bytes<=140737488355328)(hc:Cl σ):
  ∃ u' σ',Dz bytes (m,e) u (.lst 1 [row]) σ=some (u',σ')/\GV σ' m e lo u' (xs++[row])/\u'.cellB=true/\σ.length<=σ'.length/\(∀ j,j<σ.length->j ∉ u.refs->σ'[j]?=σ[j]?)/\Cl σ':=by
 obtain⟨u',σ',h1,h2,h3,h4,-⟩:=Akv (bytes:=bytes) (y:=.lst 1 [row]) (ys:=[row]) h qg rfl hm hl (fun r hr=>by rw[D4.1 hr];exact js) hb
 obtain⟨-,h6⟩:=Afo h1 rfl (fun r hx=>by rw[D4.1 hx];exact hr) (by
  rcases h with⟨rfl,-⟩ | ⟨i,g,rfl,-⟩
  .exact .inl rfl
  .exact .inr ⟨i,g,_,rfl⟩)
 refine⟨u',σ',h1,h2,Aug h2,h3,fun j hj hn=>h4 j (fun i g hu e=>hn ?_) hj,h6 hc⟩;rw[hu,e];simp[V.refs]
def Axo{σ τ:St}{m e lo:Nat}{u:V}{xs:List (List V)}(h:GV σ m e lo u xs)(hk:∀ i∈u.refs,τ[i]?=σ[i]?):GV τ m e lo u xs:=by
 rcases h with h | ⟨i,g,h,ho,qg⟩
 .exact .inl h
 .exact .inr ⟨i,g,h,by rw[hk i (by rw[h];simp[V.refs])];exact ho,qg⟩
def Axp{σ:St}{m e lo:Nat}{u:V}{xs:List (List V)}(h:GV σ m e lo u xs):∀ i∈u.refs,lo<=i/\i<σ.length:=by
 intro j hj;rcases h with⟨rfl,-⟩ | ⟨i,g,rfl,ho,qg⟩
 .simp[V.refs]at hj
 .simp[V.refs]at hj;subst hj;exact⟨qg,(Al.1 ho).1⟩
set_option maxHeartbeats 4000000 in
def Aiv{p:Gp}(h:PX p):∃ z,Fn TT PT 48 [.agg p.row] (SL z 0 (p.thrs.map Co)):=by
 have qf:(p.thrs.map Tp.row).length=p.thrs.length:=Aj ..;have qm:=P6 p;have qG:=D7 p;have qx:=h.few;refine⟨true,Bc T48 rfl ?_⟩;have c0:Cl [.row p.row 29 0 0]:=Jj (s:=[]) (fun _ h=>by cases h) qm;rw[qG]at c0 qm ⊢;simp only[go_sem,qf];refine Bh (α:=Nat × St × V) (fun a=>p.thrs.length - a.1) (fun a=>[(3,a.2.2),(7,SL p.tz p.tt (p.thrs.map Tp.row)),(8,iV (p.thrs.length:Int)),(9,iV (a.1:Int))]) (fun a=>a.2.1) (fun a=>a.1<=p.thrs.length/\(GV a.2.1 1 87 1 a.2.2 ((p.thrs.take a.1).map Co)/\(a.1=0->a.2.2=.nils)/\(a.1≠0->a.2.2≠.nils))/\Cl a.2.1/\1<=a.2.1.length) ?_ (0,_,.nils) ⟨Av _,⟨Bf7,fun _=>rfl,fun h=>absurd rfl h⟩,c0,An _⟩;rintro⟨i,s,u⟩ ⟨hi,⟨hg,qV,qs⟩,hc,qH⟩ ih;simp only at hi hg qV qs hc qH ih;refine Az Blv ?_;rcases Bb i p.thrs.length with h' | h';rotate_left
 .have qA:i=p.thrs.length:=by omega
  subst qA;rw[Dg]at hg;simp only[go_sem,Bi h']
  have jk:GW s 1 87 1 u (p.thrs.map Co):=by
   rcases hg with hg | hg
   .exact .inl hg
   .refine .inr ⟨fun e=>?_,hg⟩;have hn:p.thrs=[]:=List.map_eq_nil_iff.1 e;have hu:=qV (by rw[hn];rfl);obtain⟨i,g,qU,-⟩:=hg;rw[hu]at qU;cases qU
  exact Rb jk AA (Afr _) (Afs _)
 obtain⟨x,hx,hd,hm⟩:=Bl h';have qa:=P5 x;have qb:=Ay1 x;have qo:=h.sz x hm;obtain⟨s1,e1⟩:∃ s1:St,s1=s++[.row x.row 90 0 0]:=⟨_,rfl⟩;have c1:Cl s1:=by rw[e1];exact Jj hc qb
 have l1:s1.length=s.length+1:=by rw[e1];simp
 obtain⟨v,s2,q2,G2⟩:=Bh6 (h.tx x hm) s1.length s1 .nils [] x.bz x.bt De (An _) c1 AJ;rw[Ci]at G2;obtain⟨s3,e3,l3,f3,c3⟩:=Atb G2.g;have qI:∀ j∈u.refs,j<s.length:=fun j hj=>(Axp hg j hj).2
 have kk:∀ j,j<s.length->s3[j]?=s[j]?:=fun j hj=>by
  rw[f3 j fun e=>by have:=(C1 G2.g j e).1;omega,G2.kp j AA AS,e1,C3 hj]
 have qy:GV s3 1 87 1 u ((p.thrs.take i).map Co):=Axo hg fun j hj=>kk j (qI j hj)
 have qq:=Bx G2.g;obtain⟨qJ,qK⟩:=Ji qq;obtain⟨u',s4,e4,g4,qc,l4,k4,c4⟩:=Avp (bytes:=24) (row:=Co x) qy (by have:=G2.len;omega) AA (Afr _) rfl (Afs [x] _ AE) (by rw[Aj,D5];omega) (c3 G2.cl)
 have qp:(p.thrs.take i).map Co++[Co x]=(p.thrs.take (i+1)).map Co:=by
  rw[Hk,hx];simp
 rw[qp]at g4;rw[show Co x=[SL true 0 ((Sp.hdss x.body).map fun x=>[V.str x])] from rfl]at e4;rw[qa]at e1;simp only[go_sem,Ar h',Ai,hx,qa];rw[<-e1];refine Aa q2 ?_;simp only[go_sem,qJ,qK,qq,e3,e4,Ay (show i<9223372036854775807 by omega)];refine Am (ih (i+1,s4,u') AH ⟨h',⟨g4,fun h=>by simp at h,fun _ e=>?_⟩,c4,by have:=G2.len;have:=l3;simp only;omega⟩) rfl;rcases g4 with⟨-,g4⟩ | ⟨_,_,g4,-⟩
 .rw[<-qp]at g4;simp at g4
 .rw[g4]at e;cases e
set_option maxHeartbeats 4000000 in
def Aiw{p:Gp}(h:PX p):Fn TT PT 46 [.agg p.row] (.lst 0 (p.thrs.map Co)):=by
 have qf:(p.thrs.map Tp.row).length=p.thrs.length:=Aj ..;have qm:=P6 p;have qG:=D7 p;have qx:=h.few;refine Bc T46 rfl ?_;have c0:Cl [.row p.row 29 0 0,.row [] 87 0 0]:=Jj (s:=[.row p.row 29 0 0]) (Jj (s:=[]) (fun _ h=>by cases h) qm) rfl;rw[qG]at c0 qm ⊢;have jc:(0<=(p.thrs.length:Int))=True:=eq_true AA;have qt:(p.thrs.length*24<=140737488355328)=True:=eq_true AA;simp only[go_sem,qf,jc,qt,J0,Int.toNat_zero,Ahe,Acc,V9];refine Bh (α:=Nat × St × V) (fun a=>p.thrs.length - a.1) (fun a=>[(3,a.2.2),(11,SL p.tz p.tt (p.thrs.map Tp.row)),(12,iV (p.thrs.length:Int)),(13,iV (a.1:Int))]) (fun a=>a.2.1) (fun a=>a.1<=p.thrs.length/\(GV a.2.1 1 87 1 a.2.2 ((p.thrs.take a.1).map Co)/\a.2.2≠.nils)/\Cl a.2.1/\1<=a.2.1.length) ?_ (0,_,.sl 1 0 0 0 1 true) ⟨Av _,⟨.inr ⟨1,0,rfl,rfl,An _⟩,fun h=>by cases h⟩,c0,by simp⟩;rintro⟨i,s,u⟩ ⟨hi,⟨hg,qs⟩,hc,qH⟩ ih;simp only at hi hg qs hc qH ih;refine Az Bls ?_;rcases Bb i p.thrs.length with h' | h';rotate_left
 .have qA:i=p.thrs.length:=by omega
  subst qA;rw[Dg]at hg;simp only[go_sem,Bi h'];rcases hg with⟨e,-⟩ | ⟨i,g,rfl,ho,-⟩
  .exact absurd e qs
  .exact Af2 ho AA (Afr _) (Afs _)
 obtain⟨x,hx,hd,hm⟩:=Bl h';have qa:=P5 x;have qb:=Ay1 x;have qo:=h.sz x hm;obtain⟨s1,e1⟩:∃ s1:St,s1=s++[.row x.row 90 0 0]:=⟨_,rfl⟩;have c1:Cl s1:=by rw[e1];exact Jj hc qb
 have l1:s1.length=s.length+1:=by rw[e1];simp
 obtain⟨v,s2,q2,G2⟩:=Bh7 (h.tx x hm) s1.length s1 .nils [] x.bz x.bt De (An _) c1 AJ;rw[Ci]at G2;obtain⟨s3,e3,l3,f3,c3⟩:=Atb G2.g;have qI:∀ j∈u.refs,j<s.length:=fun j hj=>(Axp hg j hj).2
 have kk:∀ j,j<s.length->s3[j]?=s[j]?:=fun j hj=>by
  rw[f3 j fun e=>by have:=(C1 G2.g j e).1;omega,G2.kp j AA AS,e1,C3 hj]
 have qy:GV s3 1 87 1 u ((p.thrs.take i).map Co):=Axo hg fun j hj=>kk j (qI j hj)
 have qq:=Bx G2.g;obtain⟨qJ,qK⟩:=Ji qq;obtain⟨u',s4,e4,g4,qc,l4,k4,c4⟩:=Avp (bytes:=24) (row:=Co x) qy (by have:=G2.len;omega) AA (Afr _) rfl (Afs [x] _ AE) (by rw[Aj,D5];omega) (c3 G2.cl)
 have qp:(p.thrs.take i).map Co++[Co x]=(p.thrs.take (i+1)).map Co:=by
  rw[Hk,hx];simp
 rw[qp]at g4;rw[show Co x=[SL true 0 ((Sp.hdss x.body).map fun x=>[V.str x])] from rfl]at e4;rw[qa]at e1;simp only[go_sem,Ar h',Ai,hx,qa];rw[<-e1];refine Aa q2 ?_;simp only[go_sem,qJ,qK,qq,e3,e4,Ay (show i<9223372036854775807 by omega)];refine Am (ih (i+1,s4,u') AH ⟨h',⟨g4,fun e=>?_⟩,c4,by have:=G2.len;have:=l3;simp only;omega⟩) rfl;rcases g4 with⟨-,g4⟩ | ⟨_,_,g4,-⟩
 .rw[<-qp]at g4;simp at g4
 .rw[g4]at e;cases e
/-! keys -/
def Ju(nm ln:List UInt8)(n:Nat):List V:=[.str nm,.str ln,iV (n:Int)]
def Gf(nm:List UInt8):List (List UInt8)->List (List UInt8)->List (List V)
 | _,[]=>[]
 | P,x::X=>Ju nm x (P.count x)::Gf nm (P++[x]) X
def Ik(p:Gp):List (List V):=(p.thrs.map fun t=>Gf t.nm [] (Sp.hdss t.body)).flatten
def Ul(nm:List UInt8):∀ (X P:List (List UInt8)),(Gf nm P X).length=X.length
 | [],_=>rfl
 | x::X,P=>by rw[Gf,Bg,Ul nm X,Bg]
def Aet(nm:List UInt8):∀ (X P:List (List UInt8)),∀ r∈Gf nm P X,r.length=3/\r.all V.rowB=true
 | [],_,r,hr=>by cases hr
 | x::X,P,r,hr=>by
  rw[Gf]at hr;rcases Bo.1 hr with rfl | hr
  .exact⟨rfl,rfl⟩
  .exact Aet nm X _ r hr
def W7(L:List Tp):∀ r∈(L.map fun t=>Gf t.nm [] (Sp.hdss t.body)).flatten,r.length=3/\r.all V.rowB=true:=fun r hr=>by
 obtain⟨l,hl,hr⟩:=List.mem_flatten.1 hr;obtain⟨t,-,rfl⟩:=Cs.1 hl;exact Aet _ _ _ r hr
def Aix(L:List Tp):((L.map fun t=>Gf t.nm [] (Sp.hdss t.body)).flatten).length=(L.map fun t=>Sp.szs t.body).sum:=by
 induction L with
 | nil=>rfl
 | cons a l ih=>simp only[A2,Fe,Aq,Ul,Je,ih,List.sum_cons]
