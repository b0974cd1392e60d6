/- Walks: a program's statements edited. -/
import Derived.Test.YtphikjgngompaaaGreatDoorUb
set_option linter.all false
namespace Go.Proofs.YtphikjgngompaaaGreatDoor.KM
open Go
def Bbb{g:V}{kill:List Nat}{x y R:AC}{i1 i2:Nat}{k:List It}{e:Env}{σ:St}{Q:Env->St->Prop}(P P2:Env->St->Prop)
  (h1:∀ R' k',(∀ e σ,P e σ->W TT PT (.c R'::.b i2::k') e σ Q)->(∀ e σ,P2 e σ->W TT PT k' e σ Q)->WC TT PT g kill x y (.b i1::.c R'::.b i2::k') e σ Q)
  (h2:∀ e σ,P e σ->W TT PT (.c R::.b i2::k) e σ Q) (h3:∀ e σ,P2 e σ->W TT PT k e σ Q):WC TT PT g kill x y (.b i1::.c R::.b i2::k) e σ Q:=h1 R k h2 h3
structure EW (p:Gp) (s:St) (u:V) (T:List Tp):Prop where
 z:s[1]?=some (.row [.nils,.nils] 29 0 0)
 o:s[2]?=some (.row [SL p.dz p.dt (p.decls.map Dp.row),u] 29 0 0)
 t:TS s 3
 g:GW s 4 89 4 u (T.map Tp.row)
def Am5{p:Gp}{s:St}{u:V}{T:List Tp}(h:EW p s u T):4<=s.length:=Pk h.t
def Abz{p:Gp}{s s':St}{u:V}{T:List Tp}(h:EW p s u T)(ht:TS s' 3)(hk:∀ j,j<s.length->j≠3->(j=1\/j=2\/j∈u.refs)->s'[j]?=s[j]?):EW p s' u T:=by
 have hl:=Am5 h
 exact⟨(hk 1 AA AA (.inl rfl)).trans h.z,(hk 2 AA AA (.inr (.inl rfl))).trans h.o,ht,Jm h.g fun j hj=>by
  obtain⟨a,b⟩:=Dm h.g j hj
  grind⟩
def Abd{s s':St}{b:Nat}(h:TS s b)(hk:s'[b]?=s[b]?):TS s' b:=by
 obtain⟨z,t,l,a,h1,h2⟩:=h;exact⟨z,t,l,a,hk.trans h1,h2⟩
structure EX (p:Gp) (n:Nat) (x:Tp) (s:St) (u:V) (T:List Tp) (w:V) (B:List Sp):Prop where
 ew:EW p s u T
 n4:4<=n
 r:s[n]?=some (tO x)
 u:∀ j∈u.refs,j<n
 g:GW s 11 103 (n+1) w (B.map Sp.row)
def Ab0{p:Gp}{n:Nat}{x:Tp}{s:St}{u w:V}{T:List Tp}{B:List Sp}(h:EX p n x s u T w B):n<s.length:=(Al.1 h.r).1
def Ax1{p:Gp}{n:Nat}{x:Tp}{s:St}{u w:V}{T:List Tp}{B:List Sp}(h:EX p n x s u T w B)(l:St):EX p n x (s++l) u T w B:=
 ⟨Abz h.ew (Abd h.ew.t (Eb (Pk h.ew.t))) fun j hj _ _=>Eb hj,h.n4,Bs h.r,h.u,Gm h.g⟩
def Bgg{p:Gp}{n:Nat}{x:Tp}{s s':St}{u w:V}{T:List Tp}{B:List Sp}(h:EX p n x s u T w B)(hw:TW s s' 3):EX p n x s' u T w B:=by
 have hn:=Ab0 h;refine⟨Abz h.ew hw.2.2.1 fun j hj h3 _=>hw.2.1 j hj h3,h.n4,(hw.2.1 n hn (by have:=h.n4;omega)).trans h.r,h.u,Jm h.g fun j hj=>?_⟩;obtain⟨a,b⟩:=Dm h.g j hj;exact hw.2.1 j b (by have:=h.n4;omega)
def Azx{p:Gp}{n:Nat}{x:Tp}{s:St}{u w:V}{T:List Tp}{B:List Sp}(h:EX p n x s u T w B)(y:Sp)(hb:B.length<=10000000):
  ∃ w' s',Dv 176 (11,103) w (.lst 1 [y.row]) s=some (w',s')/\EX p n x s' u T w' (B++[y])/\w'.cellB=true/\(∀ j,j<s.length->j ∉ w.refs->s'[j]?=s[j]?)/\∀ j∈w'.refs,j∈w.refs\/s.length<=j:=by
 have hn:=Ab0 h;have h4:=h.n4;obtain⟨w',s',a,g',l',k',r',-⟩:=O7 (bytes:=176) (y:=.lst 1 [y.row]) (ys:=[y].map Sp.row) h.g AA rfl AA (Vk B) (Vk [y]) (Ak4 [y]) (by grind);rw[<-F0]at g';have hw:∀ j,j<=n->j ∉ w.refs:=fun j hj e=>by have:=(Dm h.g j e).1;omega
 refine⟨w',s',a,⟨Abz h.ew (Abd h.ew.t (k' 3 AA (hw 3 AA))) fun j hj _ qk=>k' j hj ?_,h4,(k' n hn (hw n (Ak _))).trans h.r,h.u,g'⟩,Ce g',k',r'⟩;rcases qk with rfl | rfl | qk
 .grind
 .grind
 .exact hw j (by have:=h.u j qk;omega)
def Bbc{p:Gp}{n:Nat}{x:Tp}{s:St}{u w:V}{T:List Tp}{B:List Sp}(h:EX p n x s u T w B)(y:Sp)(hb:B.length<=10000000):
  ∃ s1 w' s',Dv 176 (11,103) (.lst 1 []) (.lst 1 [y.row]) s=some (.sl s.length 0 0 1 11 true,s1)/\Dv 176 (11,103) (.sl s.length 0 0 1 11 true) w s1=some (w',s')/\EX p n x s' u T w' (y::B)/\w'.cellB=true:=by
 have hn:=Ab0 h;have h4:=h.n4;have hy:=Oz y
 have e1:Dv 176 (11,103) (.lst 1 []) (.lst 1 [y.row]) s=some (.sl s.length 0 0 1 11 true,s++[.row y.row 103 0 0]):=by
  simp[Dv,Ew,Js,hy]
 have h1:=Ax1 h [.row y.row 103 0 0];have g1:GW (s++([.row y.row 103 0 0]:St)) 11 103 (n+1) (.sl s.length 0 0 1 11 true) ([y].map Sp.row):=.inr ⟨by simp,s.length,0,rfl,by simp,by omega⟩;obtain⟨w',s',a,g',l',k',r',-⟩:=O7 (bytes:=176) (y:=w) (ys:=B.map Sp.row) g1 (by grind) (Blf h1.g (Vk B)) AA (Vk [y]) (Vk B) (Ak4 B) (by grind);rw[<-F0]at g';have hw:∀ j,j<s.length->j ∉ (V.sl s.length 0 0 1 11 true).refs:=fun j hj e=>by grind[V.refs]
 have qS:(s++([.row y.row 103 0 0]:St)).length=s.length+1:=by simp
 refine⟨_,w',s',e1,a,⟨Abz h1.ew (Abd h1.ew.t (k' 3 AA (hw 3 AA))) fun j hj _ qk=>k' j hj ?_,h4,(k' n AA (hw n hn)).trans h1.r,h.u,g'⟩,Ce g'⟩;rcases qk with rfl | rfl | qk
 .grind
 .grind
 .exact hw j (by have:=h.u j qk;omega)
def Blu{p:Gp}{n:Nat}{x:Tp}{s:St}{u w:V}{T:List Tp}{B:List Sp}(h:EX p n x s u T w B)(hT:T.length<=1000000):
  ∃ s1 u' s2,Qn 4 1 s [.str x.nm,iV x.line,SL x.lz x.lt (x.locals.map fun s=>[V.str s]),w]=some (.lst 1 [[.str x.nm,iV x.line,SL x.lz x.lt (x.locals.map fun s=>[V.str s]),SL true 0 (B.map Sp.row)]],s1) /\
   Dv 72 (4,89) u (.lst 1 [[.str x.nm,iV x.line,SL x.lz x.lt (x.locals.map fun s=>[V.str s]),SL true 0 (B.map Sp.row)]]) s1=some (u',s2)/\u'.cellB=true/\s2[2]?=some (.row [SL p.dz p.dt (p.decls.map Dp.row),u] 29 0 0) /\
   EW p (s2.set 2 (.row [SL p.dz p.dt (p.decls.map Dp.row),u'] 29 0 0)) u' (T++[⟨x.nm,x.line,x.lz,x.lt,x.locals,true,0,B⟩]):=by
 have hn:=Ab0 h;have h4:=h.n4;obtain⟨s1,e1,l1,f1,-⟩:=Ar7 h.g (loc:=SL x.lz x.lt (x.locals.map fun s=>[V.str s])) (Hq ..) x.nm x.line;have hw:∀ j,j<=n->j ∉ w.refs:=fun j hj e=>by have:=(Dm h.g j e).1;omega
 have hx:Tp.row ⟨x.nm,x.line,x.lz,x.lt,x.locals,true,0,B⟩=[.str x.nm,iV x.line,SL x.lz x.lt (x.locals.map fun s=>[V.str s]),SL true 0 (B.map Sp.row)]:=rfl;have g1:GW s1 4 89 4 u (T.map Tp.row):=Jm h.ew.g fun i hi=>f1 i (hw i (by have:=h.u i hi;omega))
 obtain⟨u',s2,e2,g2,l2,k2,r2,-⟩:=O7 (bytes:=72) (y:=.lst 1 [Tp.row ⟨x.nm,x.line,x.lz,x.lt,x.locals,true,0,B⟩]) (ys:=[Tp.row ⟨x.nm,x.line,x.lz,x.lt,x.locals,true,0,B⟩]) g1 AA rfl AA (Ve T) (by simp;rfl) (fun r hr=>by rw[F5.1 hr,hx];simp only[B5,Dd,Hq];rfl) (by grind);have hu:∀ j,j<4->j ∉ u.refs:=fun j hj e=>by have:=(Dm h.ew.g j e).1;omega
 have kk:∀ j,j<4->s2[j]?=s[j]?:=fun j hj=>(k2 j AA (hu j hj)).trans (f1 j (hw j AA))
 refine⟨s1,u',s2,e1,e2,Ce g2,(kk 2 AA).trans h.ew.o,?_,Cm AA,?_,?_⟩
 .rw[Cc AA,kk 1 AA];exact h.ew.z
 .exact Abd h.ew.t ((Cc AA).trans (kk 3 AA))
 grind[Jm]
set_option maxHeartbeats 8000000 in
def Bgh{p:Gp}(hp:OKp p)(z:Bool)(t:Nat)(l:List UInt8)(hl:l.length<=9223372036854775807):∃ q:Gp,Fn TT PT 14 [.agg p.row,SL z t (B6 l)] (.agg q.row)/\q.decls=p.decls/\EdT p.thrs q.thrs:=by
 have jN:=Um p;have qQ:=Fv p;have jA:=hp.few;have qO:=Zu l;have jG:(p.thrs.map Tp.row).length=p.thrs.length:=Au ..;have e1:min (l.length:Int) 60=((min l.length 60:Nat):Int):=by omega
 obtain⟨z2,t2,qr⟩:=Xd z t 1 (B6 l) .i64 (min l.length 60) AA;rw[show(B6 l).take (min l.length 60)=B6 (l.take (min l.length 60)) by grind[B6,List.map_take]]at qr;rw[qQ]at jN ⊢;refine A01 T14 rfl ?_
 have w0:EW p [gO p,.row [.nils,.nils] 29 0 0,.row [SL p.dz p.dt (p.decls.map Dp.row),.nils] 29 0 0,.row [SL z2 t2 (B6 (l.take (min l.length 60))),iV 0] 94 0 0] .nils []:=
  ⟨rfl,rfl,⟨z2,t2,_,0,rfl,Ax _,by grind⟩,Ds⟩
 simp only[go_sem,qO,e1,qr,jG];refine Bk (α:=Nat × St × V × List Tp) (fun a=>p.thrs.length - a.1) (fun a=>[(4,.ptr 1 0 0),(5,.ptr 2 0 0),(6,.ptr 3 0 0),(23,SL p.tz p.tt (p.thrs.map Tp.row)),(24,iV (p.thrs.length:Int)),(25,iV (a.1:Int))]) (fun a=>a.2.1) (fun a=>a.1<=p.thrs.length/\EW p a.2.1 a.2.2.1 a.2.2.2/\EdT (p.thrs.take a.1) a.2.2.2) ?_ (0,_,.nils,[]) ⟨Ax _,w0,.nil⟩;clear w0;rintro⟨i,s,u,T⟩ ⟨hi,ew,hT⟩ ih;simp only at hi ew hT ih;have kj:T.length=i:=by rw[(Al1 hT).2,Ip];omega
 refine Bd Bog ?_;rcases Bh i p.thrs.length with qs | qs;rotate_left
 .have qA:i=p.thrs.length:=by omega
  rw[qA,Db]at hT;have ho:=ew.o;have hz:=ew.z;have qc:=Am5 ew;have hc:=Ce ew.g;obtain⟨qI,qJ⟩:=Jf hc;simp only[go_sem,Bl qs,ho,hz,qI,qJ,hc];have z5:(s.set 1 (.row [SL p.dz p.dt (p.decls.map Dp.row),u] 29 0 0))[1]?=some (.row [SL p.dz p.dt (p.decls.map Dp.row),u] 29 0 0):=Cm AA;refine⟨_,_,p.dz,p.dt,true,0,p.decls,T,Wl z5 rfl rfl,⟨Fj (Hq ..),Td ..⟩,⟨?_,hc⟩,rfl,hT⟩;exact Mm (Jm ew.g fun j hj=>Cc fun e=>by have:=(Dm ew.g j hj).1;omega) AA (Ve T) (Aek T)
 obtain⟨x,hx,-,jX⟩:=Bq qs;have qB:=Ul x;have qx:(x.body.map Sp.row).length=x.body.length:=Au ..;have ku:=hp.siz x jX;have kr:=Ag4 x.body;have i1:IntKind.i64.wrap ((i:Int)+1)=((i+1:Nat):Int):=A1 AA;have qc:=Am5 ew;obtain⟨s1,e1⟩:∃ s1:St,s1=s++[tO x]:=⟨_,rfl⟩
 have ex:EX p s.length x s1 u T .nils []:=by
  refine⟨Abz ew (Abd ew.t (by grind)) fun j hj _ _=>by grind,qc,by grind,fun j hj=>(Dm ew.g j hj).2,Ds⟩
 have jc:=ex.r;simp only[go_sem,Ay qs,As,hx,qB];rw[<-e1];simp only[go_sem,jc,qx];generalize s.length=n at *;clear jc e1 qc ew;clear s;refine Bk (α:=Nat × St × V × List Sp) (fun a=>x.body.length - a.1) (fun a=>[(4,.ptr 1 0 0),(5,.ptr 2 0 0),(6,.ptr 3 0 0),(8,.ptr n 0 0),(9,a.2.2.1),(23,SL p.tz p.tt (p.thrs.map Tp.row)),(24,iV (p.thrs.length:Int)),(25,iV (i:Int)),(30,SL x.bz x.bt (x.body.map Sp.row)),(31,iV (x.body.length:Int)),(32,iV (a.1:Int))]) (fun a=>a.2.1) (fun a=>a.1<=x.body.length/\EX p n x a.2.1 u T a.2.2.1 a.2.2.2/\EdB x.body a.1 a.2.2.2) ?_ (0,s1,.nils,[]) ⟨Ax _,ex,Bar _⟩;clear ex;clear s1;rintro⟨k,s,w,B⟩ ⟨hk,ex,hB⟩ kh;simp only at hk ex hB kh;have qh:=hB.cnt;have jd:=Ce ex.g;refine Bd Bof ?_;rcases Bh k x.body.length with qb | qb;rotate_left
 .have jC:k=x.body.length:=by omega
  rw[jC]at hB;obtain⟨s1,u',s2,a1,a2,hc,a3,jj⟩:=Blu ex AA;obtain⟨qI,qJ⟩:=Jf hc;obtain⟨jU,jV⟩:=Jf jd;have hr:=ex.r;have ho:=ex.ew.o;simp only[go_sem,Bl qb,hr,ho,jU,jV,jd,a1,a2,a3,qI,qJ,hc,i1];refine Aq (ih (i+1,_,u',_) AA ⟨qs,jj,?_⟩) rfl;have qu:p.thrs.take (i+1)=p.thrs.take i++[x]:=by rw[Ic,hx];rfl
  simp only[qu];exact Axl hT rfl rfl hB
 obtain⟨y,hy,-,-⟩:=Bq qb;have jZ:x.body[k]=y:=(Al.1 hy).2;have b0:=Bas hB qb;have b1:=Axk hB qb;have b2:=Bf0 hB qb;have b3:=A6w hB qb;rw[jZ]at b1 b2 b3;have qe:=Fk y;have k1:IntKind.i64.wrap ((k:Int)+1)=((k+1:Nat):Int):=A1 AA;have qw:=Ax1 ex [.row y.row 103 0 0];obtain⟨s1,e1⟩:∃ s1:St,s1=s++[.row y.row 103 0 0]:=⟨_,rfl⟩;have r1:s1[s.length]?=some (.row y.row 103 0 0):=by rw[e1];simp
 rw[<-e1]at qw;obtain⟨r,s2,q2,tw,l2,-,-,-⟩:=Aur qw.ew.t 6 AA;have qg:=Bgg qw tw;have jW:s.length ∉ w.refs:=fun e=>by have:=(Dm ex.g _ e).2;omega
 have jJ:s.length≠3:=by have:=Ab0 ex;have:=ex.n4;omega
 have r2:s2[s.length]?=some (.row y.row 103 0 0):=(tw.2.1 _ (Al.1 r1).1 jJ).trans r1;rw[qe]at e1;have jf:Bx TT PT 40 [.ptr 3 0 0,iV 6] s1 (iV (r:Int)) s2:=q2;simp only[go_sem,Ay qb,As,hy,qe];rw[<-e1];refine Aa jf ?_;simp only[go_sem];generalize s.length=m at *;clear q2 jf r1 e1 qw tw l2 ex;clear s1;clear s;refine Bbb (fun e s'=>∃ w' B' X,e=(4,.ptr 1 0 0)::(5,.ptr 2 0 0)::(6,.ptr 3 0 0)::(8,.ptr n 0 0)::(9,w')::(23,SL p.tz p.tt (p.thrs.map Tp.row))::(24,iV (p.thrs.length:Int))::(25,iV (i:Int))::(30,SL x.bz x.bt (x.body.map Sp.row))::(31,iV (x.body.length:Int))::(32,iV (k:Int))::(11,.ptr m 0 0)::X/\EX p n x s' u T w' B'/\EdB x.body (k+1) (B'++[y])/\s'[m]?=some (.row y.row 103 0 0)/\B'.length<=3000000) (fun e s'=>∃ w' B' X,e=(4,.ptr 1 0 0)::(5,.ptr 2 0 0)::(6,.ptr 3 0 0)::(8,.ptr n 0 0)::(9,w')::(23,SL p.tz p.tt (p.thrs.map Tp.row))::(24,iV (p.thrs.length:Int))::(25,iV (i:Int))::(30,SL x.bz x.bt (x.body.map Sp.row))::(31,iV (x.body.length:Int))::(32,iV (k:Int))::X/\EX p n x s' u T w' B'/\EdB x.body (k+1) B') ?_ ?_ ?_;rotate_left
 .rintro _ s ⟨w',B',X,rfl,ex,qG,r3,qh⟩;obtain⟨w2,s2,a1,qg,hc,-,-⟩:=Azx ex y AA;rw[qe]at r3 a1;simp only[go_sem,r3,a1,k1];exact Aq (kh (k+1,s2,w2,B'++[y]) AA ⟨qb,qg,qG⟩) rfl
 .rintro _ s ⟨w',B',X,rfl,ex,qG⟩;simp only[go_sem,k1];exact Aq (kh (k+1,s,w',B') AA ⟨qb,ex,qG⟩) rfl
 intro R' k' hA hC;rw[qe]at r2;have one:∀ X,W TT PT (.c R'::.b 3::k') ((4,.ptr 1 0 0)::(5,.ptr 2 0 0)::(6,.ptr 3 0 0)::(8,.ptr n 0 0)::(9,w)::(23,SL p.tz p.tt (p.thrs.map Tp.row))::(24,iV (p.thrs.length:Int))::(25,iV (i:Int))::(30,SL x.bz x.bt (x.body.map Sp.row))::(31,iV (x.body.length:Int))::(32,iV (k:Int))::(11,.ptr m 0 0)::X) s2 _:=fun X=>hA _ _ ⟨w,B,X,rfl,qg,b1,by grind,by omega⟩
 have jI:m<s2.length:=(Al.1 r2).1
 have qP:Mt w=some (iV (B.length:Int)):=by
  have:=Bi2 (Ank qg.g)
  rwa [Au]at this
 by_cases h1:r=1
 .have f1:((r:Int)==1)=true:=by simp[h1]
  by_cases ho:y.op=12
  .have f2:(y.op != 12)=false:=by simp[ho]
   simp only[go_sem,f1,r2,f2];exact one _
  .have f2:(y.op != 12)=true:=by simp[ho]
   simp only[go_sem,f1,r2,f2];exact hC _ _ ⟨w,B,_,rfl,qg,b0⟩
 have f1:((r:Int)==1)=false:=by rw[beq_eq_false_iff_ne];omega
 by_cases h2:r=2
 .have f2:((r:Int)==2)=true:=by simp[h2]
  by_cases ho:y.op=1
  .have f3:(y.op==1)=true:=by simp[ho]
   obtain⟨w3,s3,a1,jk,kl,k3,-⟩:=Azx qg y AA;have r3:=(k3 m jI jW).trans r2;rw[qe]at a1;simp only[go_sem,f1,f2,r2,f3,a1];exact hA _ _ ⟨w3,B++[y],_,rfl,jk,b2,by rw[qe];exact r3,by rw[Ar,Q4];omega⟩
  .have f3:(y.op==1)=false:=by simp[ho]
   simp only[go_sem,f1,f2,r2,f3];exact one _
 have f2:((r:Int)==2)=false:=by rw[beq_eq_false_iff_ne];omega
 by_cases h3:r=3;rotate_left
 .have f3:((r:Int)==3)=false:=by rw[beq_eq_false_iff_ne];omega
  simp only[go_sem,f1,f2,f3];exact one _
 have f3:((r:Int)==3)=true:=by simp[h3]
 by_cases kc:0<B.length;rotate_left
 .have f4:(0<(B.length:Int))=False:=eq_false AA;simp only[go_sem,f1,f2,f3,qP,f4];exact one _
 have f4:(0<(B.length:Int))=True:=eq_true AA;by_cases ho:y.op=1
 .have f5:(y.op==1)=true:=by simp[ho]
  obtain⟨s3,w4,s4,a1,a2,jl,-⟩:=Bbc qg y AA;rw[qe]at a1;have f6:Qn 11 0 s2 []=some (.lst 1 [],s2):=Ayh rfl;simp only[go_sem,f1,f2,f3,qP,f4,r2,f5,f6,a1,a2];exact hC _ _ ⟨w4,y::B,_,rfl,jl,b3⟩
 .have f5:(y.op==1)=false:=by simp[ho]
  simp only[go_sem,f1,f2,f3,qP,f4,r2,f5];exact one _
def Bqp{p q:Gp}(hp:OKp p)(hd:q.decls=p.decls)(ht:EdT p.thrs q.thrs):CnG q/\(Fd q).length<=20000000000:=by
 obtain⟨a,b⟩:=Bf1 hd ht (Amo hp.sh);exact⟨a,by have:=hp.len;omega⟩
def zeroG:Gp:=⟨true,0,[],true,0,[]⟩
def A69:zeroG.row=[.nils,.nils]:=by grind[Fv,zeroG,SL]
def Azy{s:List UInt8}{v:V}(h:Ze s v):∃ (g:Gp) (e ln:Int),v=.tup [.agg g.row,iV e,iV ln]/\(e=0->Jh s=some g)/\(e≠0->g=zeroG):=by
 unfold Ze at h
 cases hp:Jh s with
 | some g=>grind
 | none=>
  rw[hp]at h;obtain⟨e,ln,he,rfl⟩:=h;exact⟨zeroG,e,ln,by rw[A69],fun h=>absurd h he,fun _=>rfl⟩
def Bqq{P g:Gp}(hP:OKp P)(h:Jh (Fd P)=some g):(g.thrs.map fun t=>t.nm).Nodup:=by
 have hl:(Fd P).length<=4096:=by
  rcases Bh 4096 (Fd P).length with h1 | h1
  .unfold Jh at h;rw[if_pos h1]at h;cases h
  .exact h1
 obtain⟨g',h1,h2⟩:=Aqm Amr Ay0 hP.sh hl;rw[h]at h1;obtain rfl:=Lb h1;rw[<-Ba6 h2];exact hP.nd
def VeR(v:V):Prop:=∃ (A B:Gp) (ok:Bool),v=.tup [.agg A.row,.agg B.row,.bool ok]/\(ok=true->PY A/\PY B/\∃ P,OKp P/\Jh (Fd P)=some A)
def Bbd{g:V}{kill:List Nat}{x y:AC}{k:List It}{e:Env}{σ:St}{Q:Env->St->Prop}(P:Env->St->Prop)(h1:∀ k',(∀ e σ,P e σ->W TT PT k' e σ Q)->WC TT PT g kill x y k' e σ Q)(h2:∀ e σ,P e σ->W TT PT k e σ Q):WC TT PT g kill x y k e σ Q:=h1 k h2
set_option maxHeartbeats 4000000 in
def A3j(z0 z1 z2:Bool)(t0 t1 t2:Nat)(a b c:List UInt8)(un:Bool)(ha:a.length<=9223372036854775807)(hb:b.length<=9223372036854775807)(hc:c.length<=9223372036854775807):∃ v,Fn TT PT 4 [.agg [SL z0 t0 (B6 a),SL z1 t1 (B6 b),SL z2 t2 (B6 c),.bool un]] v/\VeR v:=by
 obtain⟨P,q1,qC⟩:=Au3 z0 t0 a ha;obtain⟨P2,q2,qv⟩:=Au3 z2 t2 c hc;have jv:=qC.len;have q3:=Att (Amo qC.sh) AA;obtain⟨v4,q4,jS⟩:=Ae9 (Fd P);obtain⟨A,eA,lA,rfl,ka,kb⟩:=Azy jS;obtain⟨E,q5,hd,hE⟩:=Bgh qC z1 t1 b hb;obtain⟨jg,lE⟩:=Bqp qC hd hE;have jw:=Fv P;have qH:=Fv P2;have jn:=Fv A;have jq:=Fv E;rw[jw]at q1 q3 q5;rw[qH]at q2;rw[jn]at q4;rw[jq]at q5;refine Anz T4 rfl ?_;simp only[go_sem];refine Ab q1 AB ?_;simp only[go_sem];refine Ab q3 AB ?_;simp only[go_sem];refine Ab q4 AB ?_;simp only[go_sem];refine Af AD ?_;simp only[go_sem];refine Bg q1 AB ?_;simp only[go_sem];refine Bg q5 AB ?_;simp only[go_sem];refine Bc ?_;simp only[go_sem];refine Bc ?_;simp only[go_sem];refine Bbd (fun e s=>∃ R:Gp,(CnG R/\(Fd R).length<=20000000000)/\(e=[(1,.ptr 0 0 0),(2,.ptr 1 0 0),(3,.ptr 2 0 0),(5,.ptr 3 0 0),(8,.ptr 4 0 0)]\/e=[(2,.ptr 1 0 0),(3,.ptr 2 0 0),(5,.ptr 3 0 0),(8,.ptr 4 0 0)])/\s=[.row [SL z0 t0 (B6 a),SL z1 t1 (B6 b),SL z2 t2 (B6 c),.bool un] 24 0 0,.row [.nils,.nils] 29 0 0,.row [.nils,.nils] 29 0 0,gO A,gO R]) ?_ ?_
 .intro k' qb;cases un
  .simp only[go_sem];exact qb _ _ ⟨E,⟨jg,lE⟩,.inl rfl,rfl⟩
  .simp only[go_sem];refine Ab q2 AB ?_;simp only[go_sem];exact qb _ _ ⟨P2,⟨Amo qv.sh,by have:=qv.len;omega⟩,.inr rfl,rfl⟩
 rintro _ _ ⟨R,⟨ji,lR⟩,he,rfl⟩;have q6:=Att ji AA;obtain⟨v7,q7,jT⟩:=Ae9 (Fd R);obtain⟨B,eB,lB,rfl,ke,kf⟩:=Azy jT;have jy:=Fv R;have jo:=Fv B;have qN:(A.thrs.map Tp.row).length=A.thrs.length:=Au ..;rw[jy]at q6;rw[jo]at q7
 have qD:∀ ok:Bool,(ok=true->eB=0/\0<A.thrs.length)->VeR (.tup [.agg (gR A),.agg (gR B),.bool ok]):=fun ok h=>by
  refine⟨A,B,ok,by grind,fun jL=>?_⟩;obtain⟨h1,h2⟩:=h jL
  have h3:eA=0:=Decidable.byContradiction fun ko=>by
   grind[zeroG]
  grind[Ak6]
 rcases he with rfl | rfl
 all_goals (
  simp only[go_sem];refine Ab q6 AB ?_;simp only[go_sem];refine Ab q7 AB ?_;simp only[go_sem];by_cases h0:eB=0
  .by_cases h1:0<A.thrs.length
   .have f1:(eB==0)=true:=by simp[h0]
    have f2:(0<(A.thrs.length:Int))=True:=eq_true AA;refine Af AD ?_;simp only[go_sem,f1,qN,f2];refine Bc ?_;simp only[go_sem];refine Bc ?_;simp only[go_sem];refine⟨.tup [.agg (gR A),.agg (gR B),.bool true],?_,qD true fun _=>⟨h0,h1⟩⟩;simp only[go_sem];exact Gr AB
   .have f1:(eB==0)=true:=by simp[h0]
    have f2:(0<(A.thrs.length:Int))=False:=eq_false AA;refine Af AD ?_;simp only[go_sem,f1,qN,f2];refine Bc ?_;simp only[go_sem];refine Bc ?_;simp only[go_sem];refine⟨.tup [.agg (gR A),.agg (gR B),.bool false],?_,qD false fun h=>by cases h⟩;simp only[go_sem];exact Gr AB
  .have f1:(eB==0)=false:=by simp[h0]
   refine Af AD ?_;simp only[go_sem,f1,qN];refine Bc ?_;simp only[go_sem];refine Bc ?_;simp only[go_sem];refine⟨.tup [.agg (gR A),.agg (gR B),.bool false],?_,qD false fun h=>by cases h⟩;simp only[go_sem]
   exact Gr AB)
def A7a(K:List Aj)(M:List Int)(A B:List Aj):D6 K M (A++B)=D6 K M A++D6 K M B:=by unfold D6;rw[List.filterMap_append]
def Ash(K:List Aj)(M:List Int)(A:List Aj):(D6 K M A).length<=A.length:=List.length_filterMap_le _ _
def Bbe{K:List Aj}{M:List Int}{k:Aj}(h:F9 K k=none):D6 K M [k]=[]:=by simp[D6,h]
def Ave{K:List Aj}{M:List Int}{k:Aj}{s:Nat}(h:F9 K k=some s):D6 K M [k]=if M.getD s 0<0 then [(s:Int)] else []:=by
 by_cases h2:M.getD s 0<0
 .rw[if_pos h2];unfold D6;rw[Nj];simp only[h,if_pos h2,Q5]
 .rw[if_neg h2];unfold D6;rw[Nj];simp only[h,if_neg h2,Q5]
def kz:Aj:=([],[],0)
def R7(K:List Aj)(M:List Int)(N:List Aj):List Aj:=(Rw K M N).map fun s=>K.getD s kz
def Dq(E:List Ent):List Aj:=E.flatMap Ent.sites
def A7b{E:List Ent}{i:Nat}{e:Ent}(h:E[i]?=some e):Dq (E.take (i+1))=Dq (E.take i)++e.sites:=by
 unfold Dq;rw[Ic,h,Su,List.flatMap_append];simp
def Avf{E:List Ent}(h:∀ e∈E,e.sites.length<=1000):(Dq E).length<=1000*E.length:=by
 induction E with
 | nil=>simp[Dq]
 | cons e E ih=>
  have h1:=h e B7;have h2:=ih fun x hx=>h x (Ci _ hx)
  unfold Dq at h2 ⊢;rw[Zj,Ar,Ao];omega
def Avg{p:Gp}(h:PX p){s:Nat}{k:Aj}(hk:(Ch p)[s]?=some k):Fn TT PT 22 [.agg p.row,iV (s:Int)] (.tup [.agg (kR k),.bool true]):=by
 have h1:=Blq h (s:Int);have h2:(Ik p)[s]?=some (Aw k):=by rw[Af3,As,hk];rfl
 have h3:=(Al.1 h2).1
 have h4:Ah8 p (s:Int)=.tup [.agg (Aw k),.bool true]:=by
  unfold Ah8;rw[if_pos AA,Nk,D3,h2];rfl
 rw[h4]at h1;exact h1
theorem Ahp(L:List Int):(Bb L).flatten=Cv L:=by
 induction L with
 | nil=>rfl
 | cons a L ih=>
  unfold Bb Cv at ih ⊢;rw[Az,Fg,Az,ih];rfl
theorem Aq2(L:List Int):(Gt L).Perm L:=List.mergeSort_perm _ _
def A7c(L:List Int):(Gt L).Pairwise (·<=·):=by
 have:=List.pairwise_mergeSort (le:=fun x y:Int=>decide (x<=y)) (fun a b c h1 h2=>by simp at h1 h2 ⊢;omega) (fun a b=>by simp;omega) L;exact this.imp fun h=>by simpa using h
inductive CmpL (s:St) (Z:List Int):V->Prop
 | no:Z=[]->CmpL s Z .nils
 | obj {i g e:Nat} {R:List Int}:s[i]?=some (.row (Cv (Z++R)) e g 0)->2<=i->CmpL s Z (.sl i g 0 Z.length 1 false)
set_option maxHeartbeats 4000000 in
def Bbf{p q:Gp}(hp:PY p)(hq:PY q)(z:Bool)(t:Nat)(E:List Ent)(hE:E.length<=1000)(hs:∀ e∈E,e.sites.length<=1000)(hK:(Ch p).length<=1000000000000):
  Fn TT PT 7 [.agg p.row,.agg q.row,SL z t (E.map Ent.row)] (SL true 0 ((R7 (Ch p) (Gf p q) (Dq E)).map Aw)):=by
 have g1:=Akc hp hq;have gs:=fun k=>Al7 hp.px k hK
 have gk:=fun(s:Nat) (k:Aj) (h:(Ch p)[s]?=some k)=>Avg hp.px h
 have jt:(Gf p q).length=(Ch p).length:=by rw[Aab];exact Ajk p q
 have qQ:=Fv p;have jO:=Fv q;rw[qQ]at g1 gs gk ⊢;rw[jO]at g1 ⊢;generalize Ch p=K at *;generalize Gf p q=M at *;have jp:(E.map Ent.row).length=E.length:=Au ..;have qU:=Hj M;have kg:=Avf hs;refine Bj T7 rfl ?_;simp only[go_sem];refine Ab g1 AB ?_;simp only[go_sem,jp]
 refine Bk (α:=Nat × V × St) (fun a=>E.length - a.1) (fun a=>[(3,.ptr 0 0 0),(7,SL true 0 (Bb M)),(8,a.2.1),(22,SL z t (E.map Ent.row)),(23,iV (E.length:Int)),(24,iV (a.1:Int))]) (fun a=>a.2.2)
  (fun a=>a.1<=E.length/\a.2.2[0]?=some (gO p)/\2<=a.2.2.length/\GW a.2.2 1 3 2 a.2.1 (Bb (D6 K M (Dq (E.take a.1))))) ?_ (0,.nils,_) ⟨Ax _,rfl,by simp,Ds⟩
 rintro⟨i,u,s⟩ ⟨hi,h0,qS,hg⟩ ih;simp only at hi h0 qS hg ih;refine Bd Bro ?_;rcases Bh i E.length with h' | h'
 .obtain⟨e,he,-,jz⟩:=Bq h';have km:=hs e jz;have i1:IntKind.i64.wrap ((i:Int)+1)=((i+1:Nat):Int):=A1 AA;have qu:=A7b he;simp only[go_sem,Ay h',As,he]
  refine Bk (α:=Nat × V × St) (fun a=>e.sites.length - a.1) (fun a=>[(3,.ptr 0 0 0),(7,SL true 0 (Bb M)),(8,a.2.1),(22,SL z t (E.map Ent.row)),(23,iV (E.length:Int)),(24,iV (i:Int)),(29,e.sl),(30,iV (e.sites.length:Int)),(31,iV (a.1:Int))]) (fun a=>a.2.2)
   (fun a=>a.1<=e.sites.length/\a.2.2[0]?=some (gO p)/\2<=a.2.2.length/\GW a.2.2 1 3 2 a.2.1 (Bb (D6 K M (Dq (E.take i)++e.sites.take a.1)))) ?_ (0,u,_) ⟨Ax _,Bs h0,by simp;omega,by rw[Zp,B3];exact Gm hg⟩
  rintro⟨j,v,s2⟩ ⟨hj,qE,qt,qq⟩ jh;simp only at hj qE qt qq jh;refine Bd Brn ?_;rcases Bh j e.sites.length with h2 | h2;rotate_left
  .simp only[go_sem,Bl h2,i1];have qL:j=e.sites.length:=by omega
   subst qL;rw[Db,<-qu]at qq;exact Aq (ih (i+1,v,s2) AP ⟨h',qE,qt,qq⟩) rfl
  obtain⟨k,hk,-,-⟩:=Bq h2;have j1:IntKind.i64.wrap ((j:Int)+1)=((j+1:Nat):Int):=A1 AA;have hA:∀ J,(s2++J)[0]?=some (gO p):=fun J=>Bs qE
  have jR:(e.sites.map Aw)[j]?=some (kR k):=by rw[As,hk];rfl
  have qT:e.sites.take (j+1)=e.sites.take j++[k]:=by rw[Ic,hk];rfl
  have qo:=gs k;unfold sI at qo
  have next:D6 K M (Dq (E.take i)++e.sites.take (j+1))=D6 K M (Dq (E.take i)++e.sites.take j)++D6 K M [k]:=by rw[qT,<-Br,A7a]
  have qj:Lu 3 e.sl (iV (j:Int))=some (.imm (kR k) 0):=by
   unfold Ent.sl;rw[Abk,Afg,jR];rfl
  cases hsn:F9 K k with
  | none=>
   rw[hsn]at qo;simp only[go_sem,Ay h2,qj,hA];refine Ab qo AB ?_;simp only[go_sem,j1];exact Aq (jh (j+1,v,_) AP ⟨h2,hA _,by simp;omega,by rw[next,Bbe hsn,B3];exact Gm qq⟩) rfl
  | some s'=>
   rw[hsn]at qo;have qR:s'<M.length:=by rw[jt];exact(Al.1 (Ot.1 hsn).1).1
   obtain⟨m,hm,-,-⟩:=Bq qR;have qY:(Bb M)[s']?=some [iV m]:=by unfold Bb;rw[As,hm];rfl
   have qW:M.getD s' 0=m:=by rw[D3,hm];rfl
   have f3:(0<=(s':Int))=True:=eq_true AA;by_cases qd:m<0
   .have f4:(m<0)=True:=eq_true qd;have qn:D6 K M [k]=[(s':Int)]:=by rw[Ave hsn,qW,if_pos qd]
    have qO:=Ash K M (Dq (E.take i)++e.sites.take j);have ju:=Avf (E:=E.take i) fun x hx=>hs x (Ni hx)
    rw[Ar,Ip]at qO;rw[Ip]at ju;obtain⟨v2,s3,e3,g3,l3,-,k3⟩:=Hz (bytes:=8) (y:=.lst 1 [[iV (s':Int)]]) (ys:=[[iV (s':Int)]]) (Gm (l:=[Ob.row (kR k) 45 0 0]) qq) AQ rfl AA (O3 _) AE (by rw[Hj];simp;omega);simp only[go_sem,Ay h2,qj,hA];refine Ab qo AB ?_;simp only[go_sem,f3,qU,Ay qR,qY,f4,e3,j1];refine Aq (jh (j+1,v2,s3) AP ⟨h2,(k3 0 AA).trans (hA _),by simp at l3;simp only;omega,?_⟩) rfl;simp only;rw[next,qn,Akb];exact g3
   .have f4:(m<0)=False:=eq_false qd;have qn:D6 K M [k]=[]:=by rw[Ave hsn,qW,if_neg qd]
    simp only[go_sem,Ay h2,qj,hA];refine Ab qo AB ?_;simp only[go_sem,f3,qU,Ay qR,qY,f4,j1];exact Aq (jh (j+1,v,_) AP ⟨h2,hA _,by simp;omega,by rw[next,qn,B3];exact Gm qq⟩) rfl
 have qA:i=E.length:=by omega
 subst qA;rw[Db]at hg;have qf:=A5q (ks:=K) (m:=M) (named:=Dq E) (Aq2 _) (A7c _);have kn:=Ash K M (Dq E)
 have hR:∀ r∈Rw K M (Dq E),r<K.length:=fun r hr=>by
  unfold Rw at hr;exact Ed.1 (Ol.1 hr).1
 have qV:(Rw K M (Dq E)).length<=(D6 K M (Dq E)).length:=by
  have h1:=Awe (Gt (D6 K M (Dq E)));rw[qf,Au,Z3]at h1;exact h1
 unfold R7;generalize ki:Rw K M (Dq E)=R at *
 obtain⟨a1,a2,w1,s3,c1,c2,hc,jm,qX⟩:∃ a1 a2 w1 s3,CallS TT PT 20 [u] s (.tup []) a1/\CallS TT PT 21 [u] a1 w1 s3/\CmpL s3 (R.map fun s:Nat=>(s:Int)) w1/\s3[0]?=s[0]?/\a2=s3.length/\2<=s3.length:=by
  rcases hg with⟨rfl,hn⟩ | ⟨hn,o,g,rfl,ho,ql⟩
  .have hL:D6 K M (Dq E)=[]:=by unfold Bb at hn;exact List.map_eq_nil_iff.1 hn
   have jx:R=[]:=by
    rw[hL]at qV;exact U0.1 (by simpa using qV)
   exact⟨s,_,.nils,s,.spec T20 rfl rfl rfl,.spec T21 rfl rfl rfl,.no (by rw[jx];rfl),rfl,rfl,qS⟩
  .rw[Ahp]at ho;have ja:=(Al.1 ho).1;have jH:(Bb (D6 K M (Dq E))).length=(D6 K M (Dq E)).length:=Hj _;rw[jH]
   have q1:Wi [.sl o g 0 (D6 K M (Dq E)).length 1 true] s=some (.tup [],s.set o (.row (Cv (Gt (D6 K M (Dq E)))) 3 g 0)):=by
    simp only[Wi,ho,Aew];rw[if_pos ⟨trivial,trivial,by omega⟩]
   have q2:Acm [.sl o g 0 (D6 K M (Dq E)).length 1 true] (s.set o (.row (Cv (Gt (D6 K M (Dq E)))) 3 g 0))=some (.sl o g 0 (Lib.compact (Gt (D6 K M (Dq E)))).length 1 false,(s.set o (.row (Cv (Gt (D6 K M (Dq E)))) 3 g 0)).set o (.row (Cv (Lib.compact (Gt (D6 K M (Dq E)))++List.replicate ((Gt (D6 K M (Dq E))).length - (Lib.compact (Gt (D6 K M (Dq E)))).length) 0)) 3 g 0)):=by
    simp only[Acm,Cm ja,Aew];rw[if_pos ⟨trivial,Z3 _,by omega⟩]
   refine⟨_,_,_,_,.spec T20 rfl rfl q1,.spec T21 rfl rfl q2,?_,?_,rfl,by simp;omega⟩
   .rw[qf];exact .obj (by rw[Cm (by simpa using ja)]) ql
   .rw[Cc AA,Cc AA]
 obtain⟨-,qX⟩:=qX;simp only[go_sem,Bl h'];refine Ig c1 ?_;simp only[go_sem];refine Ig c2 ?_
 have qc:Mt w1=some (iV (R.length:Int)):=by
  cases hc with
  | no h=>rw[show R=[] from List.map_eq_nil_iff.1 h];rfl
  | obj h _=>simp only[Anj,Au]
 simp only[go_sem,qc]
 refine Bk (α:=Nat × V × St) (fun a=>R.length - a.1) (fun a=>[(3,.ptr 0 0 0),(14,a.2.1),(62,w1),(63,iV (R.length:Int)),(64,iV (a.1:Int))]) (fun a=>a.2.2)
  (fun a=>a.1<=R.length/\a.2.2[0]?=some (gO p)/\s3.length<=a.2.2.length/\(∀ j,j<s3.length->a.2.2[j]?=s3[j]?)/\GW a.2.2 3 45 s3.length a.2.1 (((R.take a.1).map fun s=>K.getD s kz).map Aw)) ?_ (0,.nils,s3) ⟨Ax _,jm.trans h0,Ak _,fun _ _=>rfl,Ds⟩
 rintro⟨j,v,s4⟩ ⟨hj,qF,jD,qM,qz⟩ jh;simp only at hj qF jD qM qz jh;refine Bd Brp ?_;rcases Bh j R.length with h2 | h2;rotate_left
 .simp only[go_sem,Bl h2];have qL:j=R.length:=by omega
  subst qL;rw[Db]at qz;exact Ru qz AA (Gz _) (M3 _)
 obtain⟨r,hr,-,jQ⟩:=Bq h2;have jP:=hR r jQ;obtain⟨k,hk,-,-⟩:=Bq jP;have j1:IntKind.i64.wrap ((j:Int)+1)=((j+1:Nat):Int):=A1 AA
 obtain⟨o,g,e,Rz,rfl,ho,ql⟩:∃ o g e Rz,w1=.sl o g 0 R.length 1 false/\s3[o]?=some (.row (Cv ((R.map fun s:Nat=>(s:Int))++Rz)) e g 0)/\2<=o:=by
  cases hc with
  | no h=>rw[show R=[] from List.map_eq_nil_iff.1 h]at h2;simp at h2
  | @obj o g e Rz h ql=>exact⟨o,g,e,Rz,by rw[Au],h,ql⟩
 have jK:s4[o]?=some (.row (Cv ((R.map fun s:Nat=>(s:Int))++Rz)) e g 0):=(qM o (Al.1 ho).1).trans ho
 have jE:L5 (some (.row (Cv ((R.map fun s:Nat=>(s:Int))++Rz)) e g 0)) g 1 true j=some (iV (r:Int)):=by
  have h5:(Cv ((R.map fun s:Nat=>(s:Int))++Rz))[j]?=some (iV (r:Int)):=by
   unfold Cv;rw[As,Eb (by simpa using h2),As,hr];rfl
  have h6:=(Al.1 h5).1;rw[Ab4,if_pos ⟨rfl,by omega⟩,Hv h6,(Al.1 h5).2];rfl
 have js:K.getD r kz=k:=by rw[D3,hk];rfl
 have qu:((R.take (j+1)).map fun s=>K.getD s kz).map Aw=((R.take j).map fun s=>K.getD s kz).map Aw++[(kR k)]:=by
  rw[Ic,hr];simp only[Su,F0,Az,Bz,js];rfl
 obtain⟨v2,s5,e5,g5,l5,-,k5⟩:=Hz (bytes:=40) (y:=.lst 1 [(kR k)]) (ys:=[(kR k)]) (Gm (l:=[Ob.row (kR k) 45 0 0]) qz) AQ rfl AA (Gz _) AE AQ;simp only[go_sem,Ay h2,Md h2,jK,jE,qF];refine Ab (gk r k hk) AB ?_;simp only[go_sem,e5,j1];refine Aq (jh (j+1,v2,s5) AP ⟨h2,(k5 0 AA).trans (Bs qF),by simp at l5;simp only;omega,fun i hi=>?_,?_⟩) rfl
 .simp only;rw[k5 i AA,Eb AA];exact qM i hi
 .simp only;rw[qu];exact g5
def Acg(K:List Aj)(M:List Int)(N:List Aj)(s:Nat):Bool:=match K[s]? with
 | some k=>decide (M.getD s 0<0)&&(decide (F9 K k=some s)&&decide (k∈N))
 | none=>false
def Yj(K:List Aj)(M:List Int)(N:List Aj)(n:Nat):List Nat:=(List.range n).filter (Acg K M N)
def Akd(K:List Aj)(M:List Int)(N:List Aj):Yj K M N K.length=Rw K M N:=by
 unfold Yj Rw;refine List.filter_congr fun s _=>?_
 unfold Acg
 cases K[s]? with
 | none=>rfl
 | some k=>rw[Zm];simp
def A4m(K:List Aj)(M:List Int)(N:List Aj)(n:Nat):(Yj K M N n).length<=n:=by
 unfold Yj;have:=List.length_filter_le (Acg K M N) (List.range n)
 rwa [List.length_range]at this
def A7d(z:Bool)(t:Nat)(l:List Int)(hn:l≠[])(hb:l.length<=1000000):Fn TT PT 91 [SL z t (Bb l)] (SL true 0 (Bb l)):=by
 have qm:Bb l≠[]:=by simpa[Bb] using hn
 have ha:=Azd (σ:=[]) (m:=1) (e:=3) (bytes:=8) (y:=.lst t (Bb l)) (ys:=Bb l) rfl qm AA (O3 l) (by grind[Hj]);rw[Agu qm];refine Bj T91 rfl ?_;simp only[go_sem,ha];exact Ru (m:=1) (e:=3) (lo:=0) (.inr ⟨qm,0,0,rfl,rfl,Ak _⟩) AA (O3 l) (Xu l)
def Avh{σ:St}{i t:Nat}{P A:List Int}{R:List V}(ho:σ[i]?=some (.row (Cv P++R) 3 0 0))(hr:A.length<=R.length)(hb:P.length+A.length<=1000000):
  Dv 8 (1,3) (.sl i 0 0 P.length 1 true) (.lst t (Bb A)) σ=some (.sl i 0 0 (P++A).length 1 true,σ.set i (.row (Cv (P++A)++R.drop A.length) 3 0 0)):=by
 have qi:((Bb A).all fun r=>r.length==1)=true:=by
  rw[Bw];intro r hr;simp[O3 A r hr]
 have jv:(Cv P).length=P.length:=by unfold Cv;rw[Au]
 have qp:=Hj A;unfold Dv;simp only[Ew,C8];unfold Js;simp only;rw[if_pos ⟨qi,by omega⟩,if_pos ⟨by omega,trivial⟩];simp only[ho,if_pos];by_cases hA:A=[]
 .subst hA;simp only[Bb,Bz,Air,if_pos,B3,Di,L9];rw[M4 ho]
 .have he:(Bb A).isEmpty=false:=by simpa[Bb] using hA
  rw[he,if_neg AE,if_pos ⟨trivial,trivial,trivial,Ax _⟩,if_pos (by grind),qp,Ahp,Zx,Zx,Ar]
  grind[Cv,List.drop_append,List.drop_eq_nil_of_le]
def A7e(a b:Nat)(A B:List Int)(h0:A++B≠[])(hb:A.length+B.length<=1000000):
  Fn TT PT 92 [.lst 1 [[.lst a (Bb A)],[.lst b (Bb B)]]] (SL true 0 (Bb (A++B))):=by
 have qm:Bb (A++B)≠[]:=by simpa[Bb] using h0
 have qp:=Hj A;have qh:=Hj B;have w1:IntKind.i64.wrap (0+(A.length:Int))=(A.length:Int):=by rw[Cs AA];omega
 have w2:IntKind.i64.wrap ((A.length:Int)+(B.length:Int))=((A.length+B.length:Nat):Int):=by rw[Cs AA];omega
 have f1:((A.length:Int)<0)=False:=eq_false AA;have f2:(((A.length+B.length:Nat):Int)<0)=False:=eq_false AA
 have jM:0<A.length+B.length:=by
  rcases U1 (A.length+B.length) with h | h
  .simp_all
  .exact h
 have hg:Ab5 [.nils,iV ((A.length+B.length:Nat):Int)] []=some (.sl 0 0 0 0 1 true,[.row (List.replicate (A.length+B.length) (iV 0)) 3 0 0]):=by
  unfold Ab5;simp only;rw[if_neg AA,if_pos ⟨by omega,by omega⟩,Nk];rfl
 have a1:=Avh (σ:=[.row (List.replicate (A.length+B.length) (iV 0)) 3 0 0]) (i:=0) (t:=a) (P:=[]) (A:=A) (R:=List.replicate (A.length+B.length) (iV 0)) rfl AE (by grind);have a2:=Avh (σ:=[.row (Cv A++List.replicate B.length (iV 0)) 3 0 0]) (i:=0) (t:=b) (P:=A) (A:=B) (R:=List.replicate B.length (iV 0)) rfl AE AA;simp only[Be,Di,List.drop_replicate,Nat.add_sub_cancel_left,Adg,Id,List.replicate_zero,B3]at a1 a2;rw[Agu qm];refine Bj T92 rfl ?_;simp only[go_sem];refine Bd Anu ?_;simp only[go_sem,qp,w1,f1];refine Bd Anu ?_;simp only[go_sem,qh,w2,f2];refine Bd Anu ?_;simp only[go_sem];refine Ig (.spec T138 rfl rfl hg) ?_;simp only[go_sem];refine Bd Anv ?_;simp only[go_sem,a1];refine Bd Anv ?_;simp only[go_sem,a2];refine Bd Anv ?_;simp only[go_sem];have:=Ahc (σ:=[.row (Cv (A++B)) 3 0 0]) (m:=1) (e:=3) (i:=0) (g:=0) (xs:=Bb (A++B)) (by grind[Ahp]) AA (O3 _) (Xu _);rw[Hj,Ar]at this;exact this
abbrev N9:List Int->List Int->Int:=H7 Lib.compareInt
def R8(l:List Int):List Int:=Vy (fun x y=>decide (N9 x y<0)) l (List.range l.length) l
def A3k(z u:Bool)(t w:Nat)(A B:List Int)(ha:A.length<=1000000)(hb:B.length<=1000000):
  Fn TT PT 93 [SL z t (Bb A),SL u w (Bb B)] (iV (N9 A B)):=by
 have qp:=Hj A;have qh:=Hj B;refine Bj T93 rfl ?_;simp only[go_sem,qp]
 refine Bk (α:=Nat) (fun i=>A.length - i) (fun i=>[(0,SL z t (Bb A)),(1,SL u w (Bb B)),(9,SL z t (Bb A)),(10,iV (A.length:Int)),(11,iV (i:Int))]) (fun _=>[])
  (fun i=>i<=A.length/\i<=B.length/\N9 A B=N9 (A.drop i) (B.drop i)) ?_ 0 ⟨Ax _,Ax _,rfl⟩
 rintro i ⟨hi,qA,hc⟩ ih;refine Bd Bpq ?_;rcases Bh i A.length with h | h;rotate_left
 .have jB:i=A.length:=by omega
  subst jB;rw[List.drop_length]at hc;simp only[go_sem,Bl h,qp,qh];by_cases h2:A.length<B.length
  .have f1:((A.length:Int)<(B.length:Int))=True:=eq_true AA;rw[Hv h2]at hc;simp only[go_sem,f1];exact Ah rfl (by rw[hc];rfl)
  .have f1:((A.length:Int)<(B.length:Int))=False:=eq_false AA;rw[Ec AA]at hc;simp only[go_sem,f1];exact Ah rfl (by rw[hc];rfl)
 obtain⟨x,hx,je,-⟩:=Bq h;have qB:(Bb A)[i]?=some [iV x]:=by unfold Bb;rw[As,hx];rfl
 have i1:IntKind.i64.wrap ((i:Int)+1)=((i+1:Nat):Int):=A1 AA;rcases Bh i B.length with h2 | h2;rotate_left
 .have f1:((i:Int)>=(B.length:Int))=True:=eq_true AA;rw[je,Ec h2]at hc;simp only[go_sem,Ay h,qB,qh,f1];exact Ah rfl (by rw[hc];rfl)
 obtain⟨y,hy,jY,-⟩:=Bq h2;have qe:(Bb B)[i]?=some [iV y]:=by unfold Bb;rw[As,hy];rfl
 have f1:((i:Int)>=(B.length:Int))=False:=eq_false AA;rw[je,jY]at hc
 have qy:N9 A B=if Lib.compareInt x y≠0 then Lib.compareInt x y else N9 (A.drop (i+1)) (B.drop (i+1)):=hc
 simp only[go_sem,Ay h,qB,qh,f1,qe];refine Ab (Aa1 x y) AB ?_;simp only[go_sem];by_cases h3:Lib.compareInt x y=0
 .rw[if_neg AA]at qy;have f2:(Lib.compareInt x y != 0)=false:=by simpa using h3
  simp only[go_sem,f2,i1];exact Aq (ih (i+1) AA ⟨h,h2,qy⟩) rfl
 .rw[if_pos h3]at qy;have f2:(Lib.compareInt x y != 0)=true:=by simpa using h3
  simp only[go_sem,f2];exact Ah rfl (by rw[qy])
def Bgi(t:Nat)(l:List Int)(i:Nat)(h:i<=l.length):∃ t1,Hb 1 (.lst t (Bb l)) (some (iV (i:Int))) none none=some (.lst t1 (Bb (l.drop i))):=by
 have qi:((Bb l).all fun r=>r.length==1)=true:=by
  rw[Bw];intro r hr;simp[O3 l r hr]
 have hd:Bb (l.drop i)=(Bb l).drop i:=by unfold Bb;rw[Aiz]
 have hl:=Hj l
 have h2:Hb 1 (.lst t (Bb l)) (some (iV (i:Int))) none none=some (.lst (if(none:Option V).isSome then 1 else if(Bb l).length=(Bb l).length/\t=1 then 1 else 0) (((Bb l).take (Bb l).length).drop i)):=by
  simp only[Hb,Dz,if_pos (Zi i),Nk,C8];rw[if_pos ⟨by omega,Ak _,trivial,.inr qi⟩]
 grind
def Bgj(t:Nat)(l:List Int)(i:Nat)(h:i<=l.length):∃ t1,Hb 1 (.lst t (Bb l)) none (some (iV (i:Int))) none=some (.lst t1 (Bb (l.take i))):=by
 have hd:Bb (l.take i)=(Bb l).take i:=by unfold Bb;rw[W5]
 have hl:=Hj l
 have h2:Hb 1 (.lst t (Bb l)) none (some (iV (i:Int))) none=some (.lst (if(none:Option V).isSome then 1 else if i=(Bb l).length/\t=1 then 1 else 0) (((Bb l).take i).drop 0)):=by
  simp only[Hb,Dz,if_pos (Zi i),Nk,C8];rw[if_pos ⟨Ax _,by omega,trivial,.inl trivial⟩]
 grind
def Bgk{l:List Int}(hn:l≠[])(i:Nat):Mv l i≠[]:=fun e=>by
 grind[Ae3]
def Bgl(z:Bool)(t:Nat)(l:List Int)(hn:l≠[])(hb:l.length<=1000):
  Fn TT PT 54 [SL z t (Bb l)] (SL true 0 (Bb (R8 l))):=by
 have hl:=Hj l;have qm:Bb l≠[]:=by simpa[Bb] using hn
 have g1:=A7d z t l hn AA;rw[Agu qm]at g1 ⊢;refine Bj T54 rfl ?_;simp only[go_sem];refine Ab g1 AB ?_;simp only[go_sem,hl]
 refine Bk (α:=Nat × List Int) (fun a=>l.length - a.1) (fun a=>[(0,.lst t (Bb l)),(3,SL true 0 (Bb a.2)),(9,iV (l.length:Int)),(10,iV (a.1:Int))]) (fun _=>[])
  (fun a=>a.1<=l.length/\a.2.length=l.length/\R8 l=Vy (fun x y=>decide (N9 x y<0)) l ((List.range l.length).drop a.1) a.2) ?_ (0,l) ⟨Ax _,rfl,rfl⟩
 rintro⟨i,qa⟩ ⟨hi,qx,hc⟩ ih;simp only at hi qx hc ih;refine Bd Bpa ?_;rcases Bh i l.length with h | h;rotate_left
 .rw[Ec (by grind)]at hc;have hc:R8 l=qa:=hc;simp only[go_sem,Bl h];rw[hc];exact F7 AB
 rw[Hv (by grind),List.getElem_range]at hc;have hc:R8 l=Vy (fun x y=>decide (N9 x y<0)) l ((List.range l.length).drop (i+1)) (if decide (N9 (Mv l i) qa<0)=true then Mv l i else qa):=hc;obtain⟨t1,c1⟩:=Bgi t l i hi;obtain⟨t2,c2⟩:=Bgj t l i hi;have i1:IntKind.i64.wrap ((i:Int)+1)=((i+1:Nat):Int):=A1 AA;have g2:=A7e t1 t2 (l.drop i) (l.take i) (Bgk hn i) (by grind);have g3:=A3k true true 0 0 (Mv l i) qa (by grind[Ae3]) AA;simp only[go_sem,Ay h];refine Af AD ?_;simp only[go_sem,c1,c2];refine Bg g2 AB ?_;simp only[go_sem];refine Ab g3 AB ?_;simp only[go_sem];by_cases h3:N9 (Mv l i) qa<0
 .have f2:(N9 (Mv l i) qa<0)=True:=eq_true h3;rw[if_pos (decide_eq_true h3)]at hc;simp only[go_sem,f2,i1];exact Aq (ih (i+1,_) AA ⟨h,Ae3 l i,hc⟩) rfl
 .have f2:(N9 (Mv l i) qa<0)=False:=eq_false h3;rw[if_neg (by grind)]at hc;simp only[go_sem,f2,i1];exact Aq (ih (i+1,_) AA ⟨h,qx,hc⟩) rfl
def Avi(n:Nat){σ:St}{m e lo:Nat}{v:V}{xs:List (List V)}(h:GW σ m e lo v xs):(v.ren (·+n)).refs=v.refs.map (·+n):=by
 rcases h with⟨rfl,-⟩ | ⟨-,i,g,rfl,-⟩
 .rfl
 .rfl
def Bbg(σ:St){σ0:St}{lo:Nat}{u:V}{L:List (V × Ent)}(h:NG σ0 lo u L):NG (σ++σ0.map (Ob.ren (·+σ.length))) σ.length (u.ren (·+σ.length)) (L.map fun p=>(p.1.ren (·+σ.length),p.2)):=by
 have qK:∀ (i:Nat) (ob:Ob),σ0[i]?=some ob->(σ++σ0.map (Ob.ren (·+σ.length)))[i+σ.length]?=some (ob.ren (·+σ.length)):=fun i ob ho=>by
  grind
 refine⟨?_,fun p hp=>?_⟩
 .rcases h.1 with⟨rfl,h1⟩ | ⟨qZ,i,g,rfl,ho,ql⟩
  .refine .inl ⟨rfl,?_⟩
   simp_all
  .refine .inr ⟨by simp_all,i+σ.length,g,by simp[V.ren],?_,by omega⟩;rw[qK i _ ho];simp only[Ob.ren];congr 2
   have:∀ L:List (V × Ent),Ff (·+σ.length) (L.map Fx).flatten=((L.map fun p=>(p.1.ren (·+σ.length),p.2)).map Fx).flatten:=by
    intro L
    induction L with
    | nil=>rfl
    | cons p L ih=>
     grind[Fx,Ff,V.ren]
   grind
 .obtain⟨p0,jb,rfl⟩:=Cy.1 hp;refine⟨(h.2 p0 jb).1,?_⟩;rcases(h.2 p0 jb).2 with⟨e1,h1⟩ | ⟨qZ,i,g,e1,ho,ql⟩
  .exact .inl ⟨by grind[V.ren],h1⟩
  .refine .inr ⟨qZ,i+σ.length,g,by grind[V.ren],?_,by omega⟩
   grind[Ob.ren,Sz,Fr,M3]
def Bbh(n:Nat){σ0:St}{lo:Nat}{u:V}{L:List (V × Ent)}(h:NG σ0 lo u L)(hd:Dj L):Dj (L.map fun p=>(p.1.ren (·+n),p.2)):=by
 unfold Dj at hd ⊢;rw[List.pairwise_map];refine hd.imp_of_mem fun {p q} hp hq kq=>?_
 simp only;rw[Avi n (h.2 p hp).2,Avi n (h.2 q hq).2]
 grind
def X0{m:Nat}:∀ {xs:List (List V)} {i j:Nat} {r:List V} {c:V},(∀ r∈xs,r.length=m)->xs[i]?=some r->r[j]?=some c->xs.flatten[i*m+j]?=some c
 | x::xs,0,j,r,c,hl,hi,hj=>by
  grind
 | x::xs,i+1,j,r,c,hl,hi,hj=>by
  have hx:=hl x B7;rw[Fg,Fz (by grind),hx,show(i+1)*m+j - m=i*m+j by grind];exact X0 (fun r hr=>hl r (Ci _ hr)) (by grind) hj
def Ach{cs:List V}{e g z off:Nat}{c:V}(h:cs[off]?=some c):L5 (some (.row cs e g z)) g 1 true off=some c:=by
 obtain⟨hl,rfl⟩:=Al.1 h;rw[Ab4,if_pos ⟨rfl,by omega⟩,Hv hl];rfl
def Af4{m:Nat}{xs:List (List V)}{e g z i:Nat}{r:List V}(hl:∀ r∈xs,r.length=m)(hi:xs[i]?=some r):L5 (some (.row xs.flatten e g z)) g m false (i*m)=some (.agg r):=by
 obtain⟨h1,h2⟩:=Al.1 hi;have hf:=Ge hl;have jF:(i+1)*m<=xs.length*m:=E1 m h1;rw[Gy]at jF;have hr:=hl r (Gx hi)
 have e1:xs.flatten=(xs.take i).flatten++(r++(xs.drop (i+1)).flatten):=by
  rw[<-h2,<-Fg,<-Hv h1,<-Adf,L8]
 have e2:(xs.take i).flatten.length=i*m:=by rw[Ge fun r hr=>hl r (Ni hr),Ip,Zn AA]
 rw[Ab4,if_pos ⟨rfl,by omega⟩,e1,<-e2,List.drop_left,<-hr,Ado];rfl
def Abe{m:Nat}{xs:List (List V)}{i:Nat}{r:List V}(hl:∀ r∈xs,r.length=m)(hi:i<xs.length)(hr:r.length=m):xs.flatten.take (i*m)++r++xs.flatten.drop (i*m+m)=(xs.set i r).flatten:=by
 have e1:xs.flatten=(xs.take i).flatten++(xs[i]++(xs.drop (i+1)).flatten):=by
  rw[<-Fg,<-Hv hi,<-Adf,L8]
 have e2:(xs.take i).flatten.length=i*m:=by rw[Ge fun r hr=>hl r (Ni hr),Ip,Zn AA]
 have e3:xs[i].length=m:=hl _ (Nl hi);rw[e1,<-e2,Ado,Aiq,Aiq,Ec AA,Be,Ec AA,Be,show(xs.take i).flatten.length+m - (xs.take i).flatten.length - xs[i].length=0 by omega,L9,List.set_eq_take_append_cons_drop,if_pos hi,Adf,Fg,Br]
def Fp(K:List Aj)(seen:Int)(S:List Aj)(j:Nat):List Aj:=Jr K seen 0 (S.take j)++S.drop j
def Asi(K:List Aj)(seen:Int):∀ (a b:List Aj) (i:Nat),Jr K seen i (a++b)=Jr K seen i a++Jr K seen (i+a.length) b
 | [],b,i=>rfl
 | x::a,b,i=>by rw[Bt,Jr,Jr,Asi K seen a b (i+1),Bt,Ao,show i+1+a.length=i+(a.length+1) by omega]
def Bbi(K:List Aj)(seen:Int)(S:List Aj)(j:Nat):(Fp K seen S j).length=S.length:=by
 grind[Fp,S3]
theorem Avj{K:List Aj}{seen:Int}{S:List Aj}{j:Nat}{k:Aj}(h:S[j]?=some k):(Fp K seen S j)[j]?=some k:=by
 obtain⟨hj,rfl⟩:=Al.1 h;have hl:(Jr K seen 0 (S.take j)).length=j:=by rw[S3,Ip,Zn AA]
 unfold Fp
 grind
theorem Avk{K:List Aj}{seen:Int}{S:List Aj}{j:Nat}{k:Aj}(h:S[j]?=some k):Fp K seen S (j+1)=(Fp K seen S j).set j (Qs K seen j k):=by
 obtain⟨hj,rfl⟩:=Al.1 h;have hl:(Jr K seen 0 (S.take j)).length=j:=by rw[S3,Ip,Zn AA]
 unfold Fp;rw[Aij _ _ AA,hl,Id,Hv hj,Adg,Ic,h,Su,Asi,Ip,Zn AA,Br];simp[Jr]
def Asj{K:List Aj}{seen:Int}{S:List Aj}{j:Nat}{k:Aj}(h:S[j]?=some k)(hk:Qs K seen j k=k):Fp K seen S (j+1)=Fp K seen S j:=by
 grind[Avk,Avj,List.set_getElem_self]
def Ake{σ:St}{m e lo:Nat}{u:V}{xs:List (List V)}(h:GW σ m e lo u xs)(hr:∀ r∈xs,r.all V.rowB=true){args:List V}{v:V}(ha:Ag args=u.refs):∃ σ',after σ args v=σ'/\σ'.length=σ.length/\∀ j,j ∉ u.refs->σ'[j]?=σ[j]?:=by
 refine⟨_,rfl,?_⟩;unfold after
 split
 .grind
 .rcases h with⟨rfl,rfl⟩ | ⟨hn,i,g,rfl,ho,ql⟩
  .have:Mr σ args=[]:=by unfold Mr;rw[ha];rfl
   rw[this];exact⟨rfl,fun _ _=>rfl⟩
  .have:Mr σ args=[i]:=by
    unfold Mr;rw[ha];have e1:(V.refs (.sl i g 0 xs.length m true)).eraseDups=[i]:=by simp[V.refs,List.eraseDups_cons]
    rw[e1];have hx:Ag xs.flatten=[]:=Fr (Ie hr);simp[Fq,ho,Ob.refs,hx]
   grind[A2s,Aqd,V.refs]
def Yk(k:Aj):Prop:=0<=k.2.2/\k.2.2<=1000/\k.2.1.length<=1000/\k.1.length<=1000
def A3l(n:Nat):Yk (Hs n):=by
 unfold Yk Hs;simp only;refine⟨by omega,by omega,?_,?_⟩
 .split
  .decide
  .split<;>decide
 grind
def A4n(x:Item):∀ k∈x.ent.sites,Yk k:=fun k hk=>by
 unfold Item.ent at hk;obtain⟨n,-,rfl⟩:=Cy.1 hk;simp[A3l]
