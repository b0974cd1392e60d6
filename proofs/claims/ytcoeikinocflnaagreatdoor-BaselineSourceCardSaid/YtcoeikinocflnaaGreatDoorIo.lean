/- Walks: the maker of programs: programs. Printed by gen_io.py. -/
import Derived.Test.YtcoeikinocflnaaGreatDoorIn
import Derived.Test.YtcoeikinocflnaaGreatDoorIl
set_option linter.all false
namespace Go.Proofs.YtcoeikinocflnaaGreatDoor.KM
open Go
structure OKp (p:Gp):Prop where
 sh:ShG p
 len:(Js p).length<=10000000000
 siz:∀ t∈p.thrs,Sp.szs t.body<=1000000
 blk:Ct p.row<=1000000
 ln:LnG p
 few:p.thrs.length<=5
 nd:(p.thrs.map fun t=>t.nm).Nodup
def nml:List (List UInt8):=[[109,97,105,110],[116,49],[116,50],[116,51]]
theorem Arl{L:List Tp}{i:Nat}{nm:List UInt8}{t:Tp}(h:(L.map fun t=>t.nm)=nml.take i)(hn:([[V.str [109,97,105,110]],[V.str [116,49]],[V.str [116,50]],[V.str [116,51]]]:List (List V))[i]?=some [V.str nm])(ht:t.nm=nm):((L++[t]).map fun t=>t.nm)=nml.take (i+1):=by
 have hn:(nml.map fun x=>[V.str x])[i]?=some [V.str nm]:=hn;rw[Bb]at hn
 cases hi:nml[i]? with
 | none=>rw[hi]at hn;cases hn
 | some x=>
  rw[hi]at hn;simp at hn;rw[Fb,h,Ql,hi,hn,<-ht];rfl
theorem Ayr{L:List Tp}{i:Nat}(h:(L.map fun t=>t.nm)=nml.take i):(L.map fun t=>t.nm).Nodup:=h ▸ List.Pairwise.sublist (List.take_sublist i nml) (by decide)
def Nf(t:Tp):Prop:=Ip t.nm/\t.locals=[[97],[98]]/\(∀ s∈t.body,SM 2 s)/\t.body.length<=10
theorem Ays{t:Tp}(h:Nf t):MT t:=by
 obtain⟨h1,h2,h3,h4⟩:=h;refine⟨h1,⟨?_,?_⟩,2,by omega,fun s hs=>(h3 s hs).1,by omega⟩
 ·rw[h2];exact Au3 (by kernel_rfl)
 ·rw[h2];simp
theorem Ajh:∀ {l:List Sp},(∀ s∈l,SM 2 s)->Ck (l.map Sp.row)<=l.length*2100
 | [],_=>by simp[Ck]
 | x::l,h=>by
  have h1:=(h x (by simp)).2;have h2:=Ajh (l:=l) fun s hs=>h s (by simp[hs])
  have:BK 2=2100:=rfl;rw[Ba,Ck,Am,D9];omega
theorem Ah8:∀ {L:List Tp},(∀ t∈L,Nf t)->Ck (L.map Tp.row)<=L.length*30000
 | [],_=>by simp[Ck]
 | x::l,h=>by
  obtain⟨h1,h2,h3,h4⟩:=h x (by simp);have h5:=Ah8 (L:=l) fun s hs=>h s (by simp[hs])
  have h6:=Ajh h3;have h7:=h1.2;have h8:Ck (x.locals.map fun s=>[V.str s])=4:=by rw[h2];rfl
  have h9:x.body.length*2100<=10*2100:=Eo _ h4;rw[Ba,Ck,Am,D9,Vb];omega
theorem Aji:∀ {L:List Tp},(∀ t∈L,Nf t)->J3 L<=L.length*1000
 | [],_=>by simp[J3]
 | x::l,h=>by
  obtain⟨h1,h2,h3,h4⟩:=h x (by simp);have h5:=Aji (L:=l) fun s hs=>h s (by simp[hs])
  have h6:=U1 (k:=2) (l:=x.body) fun s hs=>(h3 s hs).1
  have z2:ZB 2=21:=rfl;have h9:x.body.length*ZB 2<=10*ZB 2:=Eo _ h4;have:J3 (x::l)=Sp.szs x.body+J3 l:=by simp[J3]
  rw[this,Am,D9];omega
theorem Ajj{z1 z2:Bool}{t1 t2:Nat}{L:List Tp}(hL:∀ t∈L,Nf t)(h5:L.length<=5)(h0:L≠[])(hnd:(L.map fun t=>t.nm).Nodup):OKp ⟨z1,t1,declsL,z2,t2,L⟩/\J3 L<=1000000:=by
 obtain⟨a,b,c⟩:=A1u (D:=declsL) (L:=L) ⟨Ao3.1,by decide⟩ (fun t ht=>Ays (hL t ht)) h5 h0;have h1:=Ah8 hL;have h2:=Aji hL;have h3:L.length*30000<=5*30000:=Eo _ h5;have h4:L.length*1000<=5*1000:=Eo _ h5;have hd:Ck (declsL.map Dp.row)<=1000:=by decide +kernel
 refine⟨⟨⟨a.decls,a.nms,a.locs,a.thrs,a.some⟩,b,c,?_,⟨by simp only;decide,by simp only;omega,fun t ht=>?_⟩,h5,hnd⟩,by omega⟩
 ·rw[Add];simp only;omega
 ·rw[(hL t ht).2.1];simp
theorem Ayt:MX 1 (Ex 1):=by
 refine⟨.num (by omega),?_,?_⟩
 ·have:(Ex 1).txt.length=1:=by unfold Ex;rw[Ed];rfl
  have e1:EB 1=54:=rfl;omega
 ·unfold Ex;rw[Fg];have x1:J4 1=36:=rfl;simp[Ck];omega
theorem A1w{f p:Nat}{res:List AR}{body:AC}{vs:List V}{R:Gp->Prop}(hT:TT f=some ⟨p,res,false,body,none⟩)(hl:vs.length=p)
  (h:W TT PT [.c body] (C2 0 vs) [] (Hd fun e' σ1=>∃ u1 u2 z1 t1 z2 t2 D L,B6 e' σ1 res=some (.agg [u1,u2])/\(OC σ1 u1 (SL z1 t1 (D.map Dp.row))/\u1.cellB=true)/\(OC σ1 u2 (SL z2 t2 (L.map Tp.row))/\u2.cellB=true)/\R ⟨z1,t1,D,z2,t2,L⟩)):∃ p:Gp,Fn TT PT f vs (.agg p.row)/\R p:=by
 obtain⟨e',σ1,hE,u1,u2,z1,t1,z2,t2,D,L,hr,⟨h1,c1⟩,⟨h2,c2⟩,hR⟩:=h;refine⟨⟨z1,t1,D,z2,t2,L⟩,?_,hR⟩;have hov:OV σ1 (.agg [u1,u2]) (.agg [SL z1 t1 (D.map Dp.row),SL z2 t2 (L.map Tp.row)]):=Uv (.cons h1 (.cons h2 .nil));have hset:Da (.agg [SL z1 t1 (D.map Dp.row),SL z2 t2 (L.map Tp.row)])=true:=by simp only[Da,Au,A1,Pg];rfl
 refine Aoe hT rfl rfl hl ⟨e',σ1,hE,.agg [u1,u2],Aj [u1,u2],hr,?_,hov _ (fun i hi=>hi),?_,?_⟩
 ·show([u1,u2].all V.cellB)=true;simp only[Au,A1,c1,c2];rfl
 ·exact Qx hset
 ·exact Tf hset
theorem Akw{s:St}(h:s[3]?=some (.row (declsL.map Dp.row).flatten 87 0 0)):OC s (.sl 3 0 0 9 6 true) (SL true 0 (declsL.map Dp.row))/\(V.sl 3 0 0 9 6 true).cellB=true:=
 ⟨U9 (xs:=declsL.map Dp.row) h (by omega) (W2 declsL) (Aax declsL),rfl⟩
set_option maxRecDepth 20000 in
set_option maxHeartbeats 16000000 in
theorem Arm(z:Bool)(t:Nat)(l:List UInt8)(hl:l.length<=9223372036854775807):∃ p:Gp,Fn TT PT 18 [SL z t (Bz l)] (.agg p.row)/\OKp p:=by
 refine A1w T18 rfl ?_;refine Gd (fun e s=>e=[(0,SL z t (Bz l)),(2,.ptr 0 0 0)]/\s=[.row [.nils,.nils] 27 0 0]) ?_ ?_
 ·intro k' hk';simp only[go_sem];exact hk' _ _ ⟨rfl,rfl⟩
 rintro _ _ ⟨rfl,rfl⟩;refine Gd (fun e s=>e=[(2,.ptr 0 0 0),(3,.ptr 2 0 0)]/\s=[.row [.nils,.nils] 27 0 0,.row [SL z t (Bz l),.int .i64 0] 96 0 0,.row [.ptr 1 0 0,.int .i64 0,.int .i64 20,.bool false,.bool false,.bool false,.bool false,.nils] 98 0 0]) ?_ ?_
 ·intro k' hk';have hb:V.cellB (SL z t (Bz l))=true:=Ej (Pg _ _ _);simp only[go_sem,hb];exact hk' _ _ ⟨rfl,rfl⟩
 rintro _ _ ⟨rfl,rfl⟩;refine Gd (fun e s=>e=[(2,.ptr 0 0 0),(3,.ptr 2 0 0),(4,.ptr 4 0 0)]/\PW s .nils []) ?_ ?_
 ·intro k' hk';simp only[go_sem];refine Lq (Afn _) ?_;simp only[go_sem]
  have mk0:MKr [.row [.nils,.nils] 27 0 0,.row [SL z t (Bz l),.int .i64 0] 96 0 0,.row [.ptr 1 0 0,.int .i64 0,.int .i64 20,.bool false,.bool false,.bool false,.bool false,.nils] 98 0 0,.row (declsL.map Dp.row).flatten 87 0 0,.row [.sl 3 0 0 9 6 true,.nils] 27 0 0] 2 1 .nils []:=by
   refine⟨⟨0,20,false,false,false,false,rfl⟩,⟨z,t,l,0,rfl,A2 _,hl⟩,by decide,Uy,by simp[V.refs],?_⟩;intro ob hm j hj;simp only[Be,Oy,or_false]at hm;rcases hm with rfl | rfl | rfl | rfl | rfl
   ·simp[Ob.refs,Aj,V.refs]at hj
   ·simp[Ob.refs,Aj,V.refs,Ky]at hj
   ·simp[Ob.refs,Aj,V.refs]at hj;subst hj;simp
   ·simp only[Ob.refs,Aah]at hj;cases hj
   ·simp[Ob.refs,Aj,V.refs]at hj;subst hj;simp
  have hf:=Fx mk0;exact hk' _ _ ⟨rfl,⟨_,mk0⟩,by simp,rfl,rfl,rfl,by rw[hf];simp[V.refs],by rw[hf];simp[V.refs],by rw[hf];simp[V.refs],F4,by simp[V.refs]⟩
 rintro _ s ⟨rfl,pw⟩;refine Gd (fun e s=>∃ n:Nat,(2<=n/\n<=4)/\e=[(2,.ptr 0 0 0),(3,.ptr 2 0 0),(4,.ptr 4 0 0),(5,.int .i64 (n:Int))]/\PW s .nils []) ?_ ?_
 ·intro k' hk';obtain⟨_,_,_,_,_,_,_,m1,-⟩:=U2 pw;obtain⟨uH,hk⟩:=pw.hk;obtain⟨r,s2,q2,h2,w2,l2,r2,m2⟩:=Mp hk 3 3 rfl (by omega);have en:IntKind.i64.wrap (2+(r:Int))=((2+r:Nat):Int):=by rw[Ef (by omega)];omega
  simp only[go_sem,m1];refine Ac q2 ?_;simp only[go_sem,en];exact hk' _ _ ⟨2+r,by omega,rfl,Y3 pw h2 w2⟩
 clear pw s;rintro _ s ⟨n,hn,rfl,pw⟩;refine Gd (fun e s=>e=[(2,.ptr 0 0 0),(3,.ptr 2 0 0),(4,.ptr 4 0 0),(5,.int .i64 (n:Int)),(6,.lst 1 [[.str [109,97,105,110]],[.str [116,49]],[.str [116,50]],[.str [116,51]]])]/\PW s .nils []) ?_ ?_
 ·intro k' hk';simp only[go_sem];exact hk' _ _ ⟨rfl,pw⟩
 clear pw s;rintro _ s ⟨rfl,pw⟩;refine Gd (fun e s=>(∃ i:Nat,e=[(2,.ptr 0 0 0),(3,.ptr 2 0 0),(4,.ptr 4 0 0),(5,.int .i64 (n:Int)),(6,.lst 1 [[.str [109,97,105,110]],[.str [116,49]],[.str [116,50]],[.str [116,51]]]),(7,.int .i64 (i:Int))])/\∃ u2 L,PW s u2 L/\(∀ t∈L,Nf t)/\L.length<=5/\L≠[]/\(L.map fun t=>t.nm).Nodup) ?_ ?_
 ·intro k' hk';simp only[go_sem];refine B9 (α:=Nat × St × V × List Tp) (fun a=>n - a.1) (fun a=>[(2,.ptr 0 0 0),(3,.ptr 2 0 0),(4,.ptr 4 0 0),(5,.int .i64 (n:Int)),(6,.lst 1 [[.str [109,97,105,110]],[.str [116,49]],[.str [116,50]],[.str [116,51]]]),(7,.int .i64 (a.1:Int))]) (fun a=>a.2.1) (fun a=>a.1<=n/\PW a.2.1 a.2.2.1 a.2.2.2/\(∀ t∈a.2.2.2,Nf t)/\a.2.2.2.length=a.1/\(a.2.2.2.map fun t=>t.nm)=nml.take a.1) ?_ (0,s,.nils,[]) ⟨A2 _,pw,(fun d hd=>by cases hd),rfl,rfl⟩;clear pw s;rintro⟨i,s,u2,L⟩ ⟨hi,pw,hL,hLl,hLn⟩ ih;simp only at hi pw hL hLl hLn ih;refine Ca (by delta lp18_1;exact rfl) ?_;rcases Bx i n with h' | h';rotate_left
  ·simp only[go_sem,Cr h'];exact hk' _ _ ⟨⟨i,rfl⟩,u2,L,pw,hL,by omega,(fun e=>by rw[e]at hLl;simp at hLl;omega),Ayr hLn⟩
  obtain⟨nm,hnm,hnl⟩:=T0 [[109,97,105,110],[116,49],[116,50],[116,51]] (by kernel_rfl) (j:=i) (by simp;omega);simp only[Ba,Bs]at hnm;refine Gd (fun e s'=>e=[(2,.ptr 0 0 0),(3,.ptr 2 0 0),(4,.ptr 4 0 0),(5,.int .i64 (n:Int)),(6,.lst 1 [[.str [109,97,105,110]],[.str [116,49]],[.str [116,50]],[.str [116,51]]]),(7,.int .i64 (i:Int))]/\s'=s) ?_ ?_
  ·intro k' hk';simp only[go_sem,B7 h'];exact hk' _ _ ⟨rfl,rfl⟩
  rintro _ s' ⟨rfl,e0⟩;rw[e0];clear e0 s';refine Gd (fun e s'=>(e=[(2,.ptr 0 0 0),(3,.ptr 2 0 0),(4,.ptr 4 0 0),(5,.int .i64 (n:Int)),(6,.lst 1 [[.str [109,97,105,110]],[.str [116,49]],[.str [116,50]],[.str [116,51]]]),(7,.int .i64 (i:Int))]\/∃ v,e=[(2,.ptr 0 0 0),(3,.ptr 2 0 0),(4,.ptr 4 0 0),(5,.int .i64 (n:Int)),(6,.lst 1 [[.str [109,97,105,110]],[.str [116,49]],[.str [116,50]],[.str [116,51]]]),(7,.int .i64 (i:Int)),(9,v)])/\∃ u' t,PW s' u' (L++[t])/\Nf t/\t.nm=nm) ?_ ?_;rotate_left
  ·clear pw hnl;rintro e s ⟨he,u',t,pw,ht,htn⟩;have hN:=Arl hLn hnm htn;have hL':∀ x∈L++[t],Nf x:=fun x hx=>(Cq.1 hx).elim (hL x) fun hx=>by rw[Ey.1 hx];exact ht
   rcases he with rfl | ⟨v,rfl⟩
   all_goals
    simp only[go_sem,Bg (show i<9223372036854775807 by omega)];exact Bi (ih (i+1,s,u',L++[t]) (by simp only;omega) ⟨h',pw,hL',by rw[Ao,Hr,hLl],hN⟩) rfl
  clear ih hk' k';intro k' hk';rw[Ald];refine Gd (fun e s'=>e=[(2,.ptr 0 0 0),(3,.ptr 2 0 0),(4,.ptr 4 0 0),(5,.int .i64 (n:Int)),(6,.lst 1 [[.str [109,97,105,110]],[.str [116,49]],[.str [116,50]],[.str [116,51]]]),(7,.int .i64 (i:Int))]/\PW s' u2 L) ?_ ?_
  ·intro k2 hk2;obtain⟨_,_,_,_,_,_,_,m1,ho⟩:=U2 pw;simp only[go_sem,m1];exact hk2 _ _ ⟨rfl,ho _ _ _ _ _ _⟩
  clear pw s;rintro _ s0 ⟨rfl,pw⟩;refine Gd (fun e s'=>e=[(2,.ptr 0 0 0),(3,.ptr 2 0 0),(4,.ptr 4 0 0),(5,.int .i64 (n:Int)),(6,.lst 1 [[.str [109,97,105,110]],[.str [116,49]],[.str [116,50]],[.str [116,51]]]),(7,.int .i64 (i:Int)),(8,.ptr s0.length 0 0)]/\TH s0 s' nm u2 L .nils []) ?_ ?_
  ·intro k2 hk2;simp only[go_sem,hnm];exact hk2 _ _ ⟨rfl,Ayp pw nm⟩
  clear pw;rintro _ s ⟨rfl,th⟩;refine Gd (fun e s'=>(e=[(2,.ptr 0 0 0),(3,.ptr 2 0 0),(4,.ptr 4 0 0),(5,.int .i64 (n:Int)),(6,.lst 1 [[.str [109,97,105,110]],[.str [116,49]],[.str [116,50]],[.str [116,51]]]),(7,.int .i64 (i:Int)),(8,.ptr s0.length 0 0)]\/∃ v,e=[(2,.ptr 0 0 0),(3,.ptr 2 0 0),(4,.ptr 4 0 0),(5,.int .i64 (n:Int)),(6,.lst 1 [[.str [109,97,105,110]],[.str [116,49]],[.str [116,50]],[.str [116,51]]]),(7,.int .i64 (i:Int)),(8,.ptr s0.length 0 0),(9,v)])/\∃ uB B,TH s0 s' nm u2 L uB B/\(∀ x∈B,SM 2 x)/\B.length<=3) ?_ ?_
  ·intro k2 hk2;by_cases hi0:i=0;rotate_left
   ·have f1:((i:Int)==0)=false:=by simp;omega
    simp only[go_sem,f1];exact hk2 _ _ ⟨.inl rfl,_,_,th,(fun x hx=>by cases hx),by simp⟩
   ·have f1:((i:Int)==0)=true:=by simp[hi0]
    simp only[go_sem,f1];refine B9 (α:=Nat × St × V × List Sp) (fun a=>n - a.1) (fun a=>[(2,.ptr 0 0 0),(3,.ptr 2 0 0),(4,.ptr 4 0 0),(5,.int .i64 (n:Int)),(6,.lst 1 [[.str [109,97,105,110]],[.str [116,49]],[.str [116,50]],[.str [116,51]]]),(7,.int .i64 (i:Int)),(8,.ptr s0.length 0 0),(9,.int .i64 (a.1:Int))]) (fun a=>a.2.1) (fun a=>(1<=a.1/\a.1<=n)/\TH s0 a.2.1 nm u2 L a.2.2.1 a.2.2.2/\(∀ x∈a.2.2.2,SM 2 x)/\a.2.2.2.length+1=a.1) ?_ (1,s,.nils,[]) ⟨by simp only;omega,th,(fun d hd=>by cases hd),rfl⟩;clear th s;rintro⟨j,s,uB,B⟩ ⟨hj,th,hB,hBl⟩ ih;simp only at hj th hB hBl ih;refine Ca (by delta lp18_0;exact rfl) ?_;rcases Bx j n with h3 | h3;rotate_left
    ·simp only[go_sem,Cr h3];exact hk2 _ _ ⟨.inr ⟨_,rfl⟩,uB,B,th,hB,by omega⟩
    obtain⟨nj,hnj,hnjl⟩:=T0 [[109,97,105,110],[116,49],[116,50],[116,51]] (by kernel_rfl) (j:=j) (by simp;omega);simp only[Ba,Bs]at hnj;obtain⟨u',s',ha,⟨c1,c2,c3⟩,r',-,th'⟩:=Aco th (y:=.lst 1 [(Jd 12 nj).row]) (C:=[Jd 12 nj]) rfl (by simp;omega);rw[Rq]at ha;have r1:=th.r;simp only[go_sem,B7 h3];refine Ag (by kernel_rfl) ?_;simp only[go_sem,r1,hnj];refine Ay ?_;simp only[go_sem,ha];refine Ay ?_;simp only[go_sem,r',c1,c2,c3];refine Ay ?_;simp only[go_sem,Bg (show j<9223372036854775807 by omega)];refine Bi (ih (j+1,_,u',B++[Jd 12 nj]) (by simp only;omega) ⟨by simp only;omega,th',fun x hx=>?_,by rw[Ao,Hr,hBl]⟩) rfl;rcases Cq.1 hx with hx | hx
    ·exact hB x hx
    ·rw[Ey.1 hx];exact Ve (by omega) hnjl
  clear th s;rintro e s ⟨he,uB,B,th,hB,hBl⟩;refine Gd (fun e s'=>(e=[(2,.ptr 0 0 0),(3,.ptr 2 0 0),(4,.ptr 4 0 0),(5,.int .i64 (n:Int)),(6,.lst 1 [[.str [109,97,105,110]],[.str [116,49]],[.str [116,50]],[.str [116,51]]]),(7,.int .i64 (i:Int)),(8,.ptr s0.length 0 0)]\/∃ v,e=[(2,.ptr 0 0 0),(3,.ptr 2 0 0),(4,.ptr 4 0 0),(5,.int .i64 (n:Int)),(6,.lst 1 [[.str [109,97,105,110]],[.str [116,49]],[.str [116,50]],[.str [116,51]]]),(7,.int .i64 (i:Int)),(8,.ptr s0.length 0 0),(9,v)])/\∃ uB B,TH s0 s' nm u2 L uB B/\(∀ x∈B,SM 2 x)/\B.length<=8) ?_ ?_
  ·intro k2 hk2;obtain⟨_,_,_,_,_,_,_,m1,-⟩:=U2 th.pw;obtain⟨uH,hk⟩:=th.pw.hk;obtain⟨r,s2,q2,h2,w2,l2,rb,mm2⟩:=Mp hk 3 3 rfl (by omega);have th2:=Adj th h2 w2;have er:IntKind.i64.wrap (1+(r:Int))=((1+r:Nat):Int):=by rw[Ef (by omega)];omega
   obtain⟨u,s3,q3,L3,uH3,hO,hL3,hL3l,h3,w3⟩:=(Agn 2 (by omega) 2 (by omega)).2 s2 2 1 uH [] h2 (by simp) (1+r) (by omega);have th3:=Adj th2 h3 w3;obtain⟨u',s',ha,⟨c1,c2,c3⟩,r',mm',th'⟩:=Aco th3 (C:=L3) (Ayo hO.1) (by omega);have m2:=mm2.trans m1;obtain⟨_,_,_,_,_,_,_,m3,-⟩:=U2 th3.pw;have m4:=mm'.trans m3;have r1:=th.r;have r2:=th2.r;have r3:=th3.r;have q3:Bp TT PT 52 [.ptr 2 0 0,.int .i64 2,.int .i64 ((1+r:Nat):Int)] s2 u s3:=q3;rcases he with rfl | ⟨v,rfl⟩
   all_goals
    refine Ag (by kernel_rfl) ?_;simp only[go_sem,r1,m1];refine F1 q2 ?_;simp only[go_sem,er];refine F1 q3 ?_;simp only[go_sem,ha];refine Ay ?_;simp only[go_sem,r',c1,c2,c3];refine Ay ?_;simp only[go_sem]
   ·exact hk2 _ _ ⟨.inl rfl,_,_,th',fun x hx=>(Cq.1 hx).elim (hB x) (hL3 x),by rw[Ao];omega⟩
   ·exact hk2 _ _ ⟨.inr ⟨_,rfl⟩,_,_,th',fun x hx=>(Cq.1 hx).elim (hB x) (hL3 x),by rw[Ao];omega⟩
  clear th hB hBl he uB B s e;rintro e s ⟨he,uB,B,th,hB,hBl⟩;refine Gd (fun e s'=>(e=[(2,.ptr 0 0 0),(3,.ptr 2 0 0),(4,.ptr 4 0 0),(5,.int .i64 (n:Int)),(6,.lst 1 [[.str [109,97,105,110]],[.str [116,49]],[.str [116,50]],[.str [116,51]]]),(7,.int .i64 (i:Int)),(8,.ptr s0.length 0 0)]\/∃ v,e=[(2,.ptr 0 0 0),(3,.ptr 2 0 0),(4,.ptr 4 0 0),(5,.int .i64 (n:Int)),(6,.lst 1 [[.str [109,97,105,110]],[.str [116,49]],[.str [116,50]],[.str [116,51]]]),(7,.int .i64 (i:Int)),(8,.ptr s0.length 0 0),(9,v)])/\∃ uB B,TH s0 s' nm u2 L uB B/\(∀ x∈B,SM 2 x)/\B.length<=9) ?_ ?_
  ·intro k2 hk2;by_cases hi0:i=0;rotate_left
   ·have f1:((i:Int)==0)=false:=by simp;omega
    rcases he with rfl | ⟨v,rfl⟩
    all_goals simp only[go_sem,f1]
    ·exact hk2 _ _ ⟨.inl rfl,_,_,th,hB,by omega⟩
    ·exact hk2 _ _ ⟨.inr ⟨_,rfl⟩,_,_,th,hB,by omega⟩
   have f1:((i:Int)==0)=true:=by simp[hi0]
   obtain⟨_,_,_,_,_,_,_,m1,-⟩:=U2 th.pw;obtain⟨uH,hk⟩:=th.pw.hk;obtain⟨r,s2,q2,h2,w2,l2,rb,mm2⟩:=Mp hk 3 3 rfl (by omega);have th2:=Adj th h2 w2;by_cases hr2:r=2
   ·subst hr2;obtain⟨u',s',ha,⟨c1,c2,c3⟩,r',mm',th'⟩:=Aco th2 (y:=.lst 1 [(Jd 13 [116,49]).row]) (C:=[Jd 13 [116,49]]) rfl (by simp;omega);rw[Rq]at ha;have r2:=th2.r;rcases he with rfl | ⟨v,rfl⟩
    all_goals
     simp only[go_sem,f1,m1];refine Ac q2 ?_;simp only[go_sem,Cp,Int.reduceBEq];refine Ag (by kernel_rfl) ?_;simp only[go_sem,r2];refine Ay ?_;simp only[go_sem,ha];refine Ay ?_;simp only[go_sem,r',c1,c2,c3];refine Ay ?_;simp only[go_sem]
    ·exact hk2 _ _ ⟨.inl rfl,_,_,th',fun x hx=>(Cq.1 hx).elim (hB x) fun hx=>by rw[Ey.1 hx];exact Ve (by omega) (Fu (by kernel_rfl)),by rw[Ao,Hr];omega⟩
    ·exact hk2 _ _ ⟨.inr ⟨_,rfl⟩,_,_,th',fun x hx=>(Cq.1 hx).elim (hB x) fun hx=>by rw[Ey.1 hx];exact Ve (by omega) (Fu (by kernel_rfl)),by rw[Ao,Hr];omega⟩
   ·have fr:((r:Int)==2)=false:=by simp;omega
    rcases he with rfl | ⟨v,rfl⟩
    all_goals
     simp only[go_sem,f1,m1];refine Ac q2 ?_;simp only[go_sem,fr]
    ·exact hk2 _ _ ⟨.inl rfl,_,_,th2,hB,by omega⟩
    ·exact hk2 _ _ ⟨.inr ⟨_,rfl⟩,_,_,th2,hB,by omega⟩
  clear th hB hBl he uB B s e;rintro e s ⟨he,uB,B,th,hB,hBl⟩;obtain⟨s1,u',s2,e1,e2,⟨c1,c2,c3⟩,p2,pw2⟩:=Ayq th (by omega);have r1:=th.r;have p1:=th.pw.p;have hub:V.cellB uB=true:=D2 th.g;rcases he with rfl | ⟨v,rfl⟩
  all_goals
   simp only[go_sem,r1,p1,hub,e1,e2,p2,c1,c2,c3]
  ·exact hk' _ _ ⟨.inl rfl,u',_,pw2,⟨hnl,rfl,hB,by simp only;omega⟩,rfl⟩
  ·exact hk' _ _ ⟨.inr ⟨_,rfl⟩,u',_,pw2,⟨hnl,rfl,hB,by simp only;omega⟩,rfl⟩
 clear pw s;rintro _ s ⟨⟨i,rfl⟩,u2,L,pw,hL,hLl,hL0,hLn⟩;obtain⟨hok,hsz⟩:=Ajj (z1:=true) (t1:=0) (z2:=true) (t2:=0) hL hLl hL0 hLn;obtain⟨o1,c1⟩:=Akw pw.d;have o2:=N3 pw.g (by omega) (Tq L) (Aay L);have c2:=D2 pw.g;obtain⟨_,q4,e4,l4,rfl⟩:=Arf (Cj hok.blk (by omega)) hok.ln hsz;have p1:=pw.p;have z1:=pw.z;have hrow:Gp.row ⟨true,0,declsL,true,0,L⟩=[SL true 0 (declsL.map Dp.row),SL true 0 (L.map Tp.row)]:=rfl;rw[hrow]at q4;simp only[go_sem,p1];refine Alh (.cons (Uv (.cons o1 (.cons o2 .nil))) .nil) q4 (by rfl) ?_;by_cases h0:e4=0
 ·have f1:(e4==0)=true:=by simp[h0]
  simp only[go_sem,bne,f1,Ap,p1,z1,c1,c2];have z5:(s.set 0 (.row [.sl 3 0 0 9 6 true,u2] 27 0 0))[0]?=some (.row [.sl 3 0 0 9 6 true,u2] 27 0 0):=B8 (by have:=pw.l5;omega);refine⟨_,_,true,0,true,0,declsL,L,Sj z5 rfl rfl,Akw (by rw[Bc (by omega)];exact pw.d),⟨?_,c2⟩,hok⟩;exact N3 (Mx pw.g fun j hj=>Bc fun e=>by have:=(Et pw.g j hj).1;omega) (by omega) (Tq L) (Aay L)
 ·have f1:(e4==0)=false:=by simp[h0]
  have xs1:=Qt [120] (Ex 1);simp only[Ex,SL,Bs,and_self,true_and,if_true]at xs1;have hl5:=pw.l5;simp only[go_sem,bne,f1,Av];refine Lq (Afn _) ?_;simp only[go_sem];refine Ad (Zg _) (by rfl) ?_;simp only[go_sem];refine Ad xs1 (by rfl) ?_;have z6:=Br (l:=([.row (declsL.map Dp.row).flatten 87 0 0]:St)) z1;simp only[go_sem,z6];have z5:((s++([.row (declsL.map Dp.row).flatten 87 0 0]:St)).set 0 (.row [.sl s.length 0 0 9 6 true,.lst 1 [[.str [109,97,105,110],.int .i64 0,.lst 1 [[.str [97]],[.str [98]]],.lst 1 [[.int .i64 1,.int .i64 0,.str [120],.str [],.nils,.int .i64 1,.int .i64 1,.str [],.nils,.nils,.nils]]]]] 27 0 0))[0]?=some (.row [.sl s.length 0 0 9 6 true,.lst 1 [[.str [109,97,105,110],.int .i64 0,.lst 1 [[.str [97]],[.str [98]]],.lst 1 [[.int .i64 1,.int .i64 0,.str [120],.str [],.nils,.int .i64 1,.int .i64 1,.str [],.nils,.nils,.nils]]]]] 27 0 0):=B8 (by simp);have hM:Nf ⟨[109,97,105,110],0,true,1,[[97],[98]],true,1,[Jc [120] (Ex 1)]⟩:=⟨Fu (by kernel_rfl),rfl,fun s hs=>by rw[Ey.1 hs];exact Adi (Fu (by kernel_rfl)) Ayt,by simp⟩;obtain⟨hok2,-⟩:=Ajj (z1:=true) (t1:=0) (z2:=true) (t2:=1) (L:=[⟨[109,97,105,110],0,true,1,[[97],[98]],true,1,[Jc [120] (Ex 1)]⟩]) (fun t ht=>by rw[Ey.1 ht];exact hM) (by simp) (by simp) (by simp);refine⟨.sl s.length 0 0 9 6 true,.lst 1 [[.str [109,97,105,110],.int .i64 0,.lst 1 [[.str [97]],[.str [98]]],.lst 1 [[.int .i64 1,.int .i64 0,.str [120],.str [],.nils,.int .i64 1,.int .i64 1,.str [],.nils,.nils,.nils]]]],true,0,true,1,declsL,[⟨[109,97,105,110],0,true,1,[[97],[98]],true,1,[Jc [120] (Ex 1)]⟩],Sj z5 rfl rfl,⟨?_,rfl⟩,⟨?_,rfl⟩,hok2⟩
  ·have h3:(s++([.row (declsL.map Dp.row).flatten 87 0 0]:St))[s.length]?=some (.row (declsL.map Dp.row).flatten 87 0 0):=by simp
   exact U9 (xs:=declsL.map Dp.row) (by rw[Bc (by omega)];exact h3) (by omega) (W2 declsL) (Aax declsL)
  ·have hr:SL true 1 ([(⟨[109,97,105,110],0,true,1,[[97],[98]],true,1,[Jc [120] (Ex 1)]⟩:Tp)].map Tp.row)=.lst 1 [[.str [109,97,105,110],.int .i64 0,.lst 1 [[.str [97]],[.str [98]]],.lst 1 [[.int .i64 1,.int .i64 0,.str [120],.str [],.nils,.int .i64 1,.int .i64 1,.str [],.nils,.nils,.nils]]]]:=by
    simp only[Ba,Bs,Tp.row,Yk];rfl
   rw[hr];exact Hj rfl
