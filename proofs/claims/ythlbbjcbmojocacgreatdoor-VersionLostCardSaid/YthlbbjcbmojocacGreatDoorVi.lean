/- Walks: the keys that are lost, both sides. -/
import Derived.Test.YthlbbjcbmojocacGreatDoorVc
set_option linter.all false
namespace Go.Proofs.YthlbbjcbmojocacGreatDoor.KM
open Go
def A1e(K:List Bm)(M:List Int)(A B:List Bm):D3 K M (A++B)=D3 K M A++D3 K M B:=by unfold D3;rw[List.filterMap_append]
def Aot(K:List Bm)(M:List Int)(A:List Bm):(D3 K M A).length<=A.length:=List.length_filterMap_le _ _
def A4t{K:List Bm}{M:List Int}{k:Bm}(h:Gt K k=none):D3 K M [k]=[]:=by simp[D3,h]
def Ara{K:List Bm}{M:List Int}{k:Bm}{s:Nat}(h:Gt K k=some s):D3 K M [k]=if M.getD s 0<0 then [(s:Int)] else []:=by
 by_cases h2:M.getD s 0<0
 .rw[if_pos h2];unfold D3;rw[Jm];simp only[h,if_pos h2,Sk]
 .rw[if_neg h2];unfold D3;rw[Jm];simp only[h,if_neg h2,Sk]
def kz:Bm:=([],[],0)
def W1(K:List Bm)(M:List Int)(N:List Bm):List Bm:=(P6 K M N).map fun s=>K.getD s kz
def Di(E:List Ent):List Bm:=E.flatMap Ent.sites
def Aou{E:List Ent}{i:Nat}{e:Ent}(h:E[i]?=some e):Di (E.take (i+1))=Di (E.take i)++e.sites:=by
 unfold Di;rw[G7,h,U1,List.flatMap_append];simp
def Arb{E:List Ent}(h:∀ e∈E,e.sites.length<=1000):(Di E).length<=1000*E.length:=by
 induction E with
 | nil=>simp[Di]
 | cons e E ih=>
  have h1:=h e C5;have h2:=ih fun x hx=>h x (C4 _ hx)
  unfold Di at h2 ⊢;rw[Sq,Al,Am];omega
def A4u{p:Gp}(h:PX p){s:Nat}{k:Bm}(hk:(Ew p)[s]?=some k):Fn TT PT 25 [.agg p.row,iV (s:Int)] (.tup [.agg [.str k.1,.str k.2.1,iV k.2.2],.bool true]):=by
 have h1:=Bdm h (s:Int);have h2:(Ig p)[s]?=some (Bd k):=by rw[V9,Aj,hk];rfl
 have h3:=(Ak.1 h2).1
 have h4:Afd p (s:Int)=.tup [.agg (Bd k),.bool true]:=by
  unfold Afd;rw[if_pos AA,Md,Av,h2];rfl
 rw[h4]at h1;exact h1
def Biq(L:List Int):(C3 L).flatten=D8 L:=by
 induction L with
 | nil=>rfl
 | cons a L ih=>
  unfold C3 D8 at ih ⊢;rw[Bb,Dv,Bb,ih];rfl
def Aza(L:List Int):(J0 L).Perm L:=List.mergeSort_perm _ _
def A1f(L:List Int):(J0 L).Pairwise (·<=·):=by
 have:=List.pairwise_mergeSort (le:=fun x y:Int=>decide (x<=y)) (fun a b c h1 h2=>by simp at h1 h2 ⊢;omega) (fun a b=>by simp;omega) L;exact this.imp fun h=>by simpa using h
inductive CmpL (s:St) (Z:List Int):V->Prop
 | no:Z=[]->CmpL s Z .nils
 | obj {i g e:Nat} {R:List Int}:s[i]?=some (.row (D8 (Z++R)) e g 0)->2<=i->CmpL s Z (.sl i g 0 Z.length 1 false)
set_option maxHeartbeats 4000000 in
def A4v{p q:Gp}(hp:PY p)(hq:PY q)(z:Bool)(t:Nat)(E:List Ent)(hE:E.length<=1000)(hs:∀ e∈E,e.sites.length<=1000)(hK:(Ew p).length<=1000000000000):
  Fn TT PT 9 [.agg p.row,.agg q.row,SL z t (E.map Ent.row)] (SL true 0 ((W1 (Ew p) (Jd p q) (Di E)).map Bd)):=by
 have g1:=Aoq hp hq;have gs:=fun k=>A9e hp.px k hK
 have gk:=fun(s:Nat) (k:Bm) (h:(Ew p)[s]?=some k)=>A4u hp.px h
 have jw:(Jd p q).length=(Ew p).length:=by rw[Ahg];exact Anb p q
 have qq:=Fh p;have jg:=Fh q;rw[qq]at g1 gs gk ⊢;rw[jg]at g1 ⊢;generalize Ew p=K at *;generalize Jd p q=M at *;have qF:(E.map Ent.row).length=E.length:=Ap ..;have jx:=Q0 M;have kx:=Arb hs;refine Bo T9 rfl ?_;simp only[go_sem];refine Ad g1 AB ?_;simp only[go_sem,qF]
 refine Bn (α:=Nat × V × St) (fun a=>E.length - a.1) (fun a=>[(3,.ptr 0 0 0),(7,SL true 0 (C3 M)),(8,a.2.1),(22,SL z t (E.map Ent.row)),(23,iV (E.length:Int)),(24,iV (a.1:Int))]) (fun a=>a.2.2)
  (fun a=>a.1<=E.length/\a.2.2[0]?=some (.row [SL p.dz p.dt (p.decls.map Dp.row),SL p.tz p.tt (p.thrs.map Tp.row)] 29 0 0)/\2<=a.2.2.length/\GW a.2.2 1 3 2 a.2.1 (C3 (D3 K M (Di (E.take a.1))))) ?_ (0,.nils,_) ⟨Au _,rfl,by simp,D5⟩
 rintro⟨i,u,s⟩ ⟨hi,h0,qt,hg⟩ ih;simp only at hi h0 qt hg ih;refine Bl Bjk ?_;rcases Be i E.length with h' | h'
 .obtain⟨e,he,-,qP⟩:=By h';have jT:=hs e qP;have i1:IntKind.i64.wrap ((i:Int)+1)=((i+1:Nat):Int):=A2 AA;have qE:=Aou he;simp only[go_sem,A0 h',Aj,he]
  refine Bn (α:=Nat × V × St) (fun a=>e.sites.length - a.1) (fun a=>[(3,.ptr 0 0 0),(7,SL true 0 (C3 M)),(8,a.2.1),(22,SL z t (E.map Ent.row)),(23,iV (E.length:Int)),(24,iV (i:Int)),(29,e.sl),(30,iV (e.sites.length:Int)),(31,iV (a.1:Int))]) (fun a=>a.2.2)
   (fun a=>a.1<=e.sites.length/\a.2.2[0]?=some (.row [SL p.dz p.dt (p.decls.map Dp.row),SL p.tz p.tt (p.thrs.map Tp.row)] 29 0 0)/\2<=a.2.2.length/\GW a.2.2 1 3 2 a.2.1 (C3 (D3 K M (Di (E.take i)++e.sites.take a.1)))) ?_ (0,u,_) ⟨Au _,Bx h0,by simp;omega,by rw[Xu,B3];exact Gk hg⟩
  rintro⟨j,v,s2⟩ ⟨hj,qM,qC,qb⟩ jh;simp only at hj qM qC qb jh;refine Bl Bjj ?_;rcases Be j e.sites.length with h2 | h2;rotate_left
  .simp only[go_sem,Bq h2,i1];have qo:j=e.sites.length:=by omega
   subst qo;rw[Dc,<-qE]at qb;exact As (ih (i+1,v,s2) AD ⟨h',qM,qC,qb⟩) rfl
  obtain⟨k,hk,-,-⟩:=By h2;have j1:IntKind.i64.wrap ((j:Int)+1)=((j+1:Nat):Int):=A2 AA;have hA:∀ J,(s2++J)[0]?=some (.row [SL p.dz p.dt (p.decls.map Dp.row),SL p.tz p.tt (p.thrs.map Tp.row)] 29 0 0):=fun J=>Bx qM
  have jl:(e.sites.map Bd)[j]?=some [.str k.1,.str k.2.1,iV k.2.2]:=by rw[Aj,hk];rfl
  have qs:e.sites.take (j+1)=e.sites.take j++[k]:=by rw[G7,hk];rfl
  have qc:=gs k;unfold sI at qc
  have next:D3 K M (Di (E.take i)++e.sites.take (j+1))=D3 K M (Di (E.take i)++e.sites.take j)++D3 K M [k]:=by rw[qs,<-Da,A1e]
  have qa:Ly 3 e.sl (iV (j:Int))=some (.imm [.str k.1,.str k.2.1,iV k.2.2] 0):=by
   unfold Ent.sl;rw[Ai1,Ah9,jl];rfl
  cases qk:Gt K k with
  | none=>
   rw[qk]at qc;simp only[go_sem,A0 h2,qa,hA];refine Ad qc AB ?_;simp only[go_sem,j1];exact As (jh (j+1,v,_) AD ⟨h2,hA _,by simp;omega,by rw[next,A4t qk,B3];exact Gk qb⟩) rfl
  | some s'=>
   rw[qk]at qc;have ji:s'<M.length:=by rw[jw];exact(Ak.1 (S3.1 qk).1).1
   obtain⟨m,hm,-,-⟩:=By ji;have qg:(C3 M)[s']?=some [iV m]:=by unfold C3;rw[Aj,hm];rfl
   have qw:M.getD s' 0=m:=by rw[Av,hm];rfl
   have f3:(0<=(s':Int))=True:=eq_true AA;by_cases qj:m<0
   .have f4:(m<0)=True:=eq_true qj;have qp:D3 K M [k]=[(s':Int)]:=by rw[Ara qk,qw,if_pos qj]
    have kb:=Aot K M (Di (E.take i)++e.sites.take j);have jO:=Arb (E:=E.take i) fun x hx=>hs x (Ik hx)
    rw[Al,Eg]at kb;rw[Eg]at jO;obtain⟨v2,s3,e3,g3,l3,-,k3⟩:=Hl (bytes:=8) (y:=.lst 1 [[iV (s':Int)]]) (ys:=[[iV (s':Int)]]) (Gk (l:=[Ob.row [.str k.1,.str k.2.1,iV k.2.2] 47 0 0]) qb) AG rfl AA (Add _) AH (by rw[Q0];simp;omega);simp only[go_sem,A0 h2,qa,hA];refine Ad qc AB ?_;simp only[go_sem,f3,jx,A0 ji,qg,f4,e3,j1];refine As (jh (j+1,v2,s3) AD ⟨h2,(k3 0 AA).trans (hA _),by simp at l3;simp only;omega,?_⟩) rfl;simp only;rw[next,qp,Aop];exact g3
   .have f4:(m<0)=False:=eq_false qj;have qp:D3 K M [k]=[]:=by rw[Ara qk,qw,if_neg qj]
    simp only[go_sem,A0 h2,qa,hA];refine Ad qc AB ?_;simp only[go_sem,f3,jx,A0 ji,qg,f4,j1];exact As (jh (j+1,v,_) AD ⟨h2,hA _,by simp;omega,by rw[next,qp,B3];exact Gk qb⟩) rfl
 have qn:i=E.length:=by omega
 subst qn;rw[Dc]at hg;have ql:=A1c (ks:=K) (m:=M) (named:=Di E) (Aza _) (A1f _);have kE:=Aot K M (Di E)
 have hR:∀ r∈P6 K M (Di E),r<K.length:=fun r hr=>by
  unfold P6 at hr;exact E1.1 (Pc.1 hr).1
 have jy:(P6 K M (Di E)).length<=(D3 K M (Di E)).length:=by
  have h1:=Arx (J0 (D3 K M (Di E)));rw[ql,Ap,Ag2]at h1;exact h1
 unfold W1;generalize ky:P6 K M (Di E)=R at *
 obtain⟨a1,a2,w1,s3,c1,c2,hc,jJ,jD⟩:∃ a1 a2 w1 s3,CallS TT PT 23 [u] s (.tup []) a1/\CallS TT PT 24 [u] a1 w1 s3/\CmpL s3 (R.map fun s:Nat=>(s:Int)) w1/\s3[0]?=s[0]?/\a2=s3.length/\2<=s3.length:=by
  rcases hg with⟨rfl,hn⟩ | ⟨hn,o,g,rfl,ho,qi⟩
  .have hL:D3 K M (Di E)=[]:=by unfold C3 at hn;exact Afs.1 hn
   have jP:R=[]:=by
    rw[hL]at jy;exact Qp.1 (by simpa using jy)
   exact⟨s,_,.nils,s,.spec T23 rfl rfl rfl,.spec T24 rfl rfl rfl,.no (by rw[jP];rfl),rfl,rfl,qt⟩
  .rw[Biq]at ho;have jE:=(Ak.1 ho).1;have kc:(C3 (D3 K M (Di E))).length=(D3 K M (Di E)).length:=Q0 _;rw[kc]
   have q1:Aac [.sl o g 0 (D3 K M (Di E)).length 1 true] s=some (.tup [],s.set o (.row (D8 (J0 (D3 K M (Di E)))) 3 g 0)):=by
    simp only[Aac,ho,Aho];rw[if_pos ⟨trivial,trivial,by omega⟩]
   have q2:Aad [.sl o g 0 (D3 K M (Di E)).length 1 true] (s.set o (.row (D8 (J0 (D3 K M (Di E)))) 3 g 0))=some (.sl o g 0 (Lib.compact (J0 (D3 K M (Di E)))).length 1 false,(s.set o (.row (D8 (J0 (D3 K M (Di E)))) 3 g 0)).set o (.row (D8 (Lib.compact (J0 (D3 K M (Di E)))++List.replicate ((J0 (D3 K M (Di E))).length - (Lib.compact (J0 (D3 K M (Di E)))).length) 0)) 3 g 0)):=by
    simp only[Aad,B5 jE,Aho];rw[if_pos ⟨trivial,Ag2 _,by omega⟩]
   refine⟨_,_,_,_,.spec T23 rfl rfl q1,.spec T24 rfl rfl q2,?_,?_,rfl,by simp;omega⟩
   .rw[ql];exact .obj (by rw[B5 (by simpa using jE)]) qi
   .rw[Bh AA,Bh AA]
 obtain⟨-,jD⟩:=jD;simp only[go_sem,Bq h'];refine Ju c1 ?_;simp only[go_sem];refine Ju c2 ?_
 have qY:Mx w1=some (iV (R.length:Int)):=by
  cases hc with
  | no h=>rw[show R=[] from Afs.1 h];rfl
  | obj h _=>simp only[Ava,Ap]
 simp only[go_sem,qY]
 refine Bn (α:=Nat × V × St) (fun a=>R.length - a.1) (fun a=>[(3,.ptr 0 0 0),(14,a.2.1),(62,w1),(63,iV (R.length:Int)),(64,iV (a.1:Int))]) (fun a=>a.2.2)
  (fun a=>a.1<=R.length/\a.2.2[0]?=some (.row [SL p.dz p.dt (p.decls.map Dp.row),SL p.tz p.tt (p.thrs.map Tp.row)] 29 0 0)/\s3.length<=a.2.2.length/\(∀ j,j<s3.length->a.2.2[j]?=s3[j]?)/\GW a.2.2 3 47 s3.length a.2.1 (((R.take a.1).map fun s=>K.getD s kz).map Bd)) ?_ (0,.nils,s3) ⟨Au _,jJ.trans h0,Ai _,fun _ _=>rfl,D5⟩
 rintro⟨j,v,s4⟩ ⟨hj,qN,ka,qV,qI⟩ jh;simp only at hj qN ka qV qI jh;refine Bl Bjl ?_;rcases Be j R.length with h2 | h2;rotate_left
 .simp only[go_sem,Bq h2];have qo:j=R.length:=by omega
  subst qo;rw[Dc]at qI;exact Ue qI AA (H3 _) (N7 _)
 obtain⟨r,hr,-,kt⟩:=By h2;have kr:=hR r kt;obtain⟨k,hk,-,-⟩:=By kr;have j1:IntKind.i64.wrap ((j:Int)+1)=((j+1:Nat):Int):=A2 AA
 obtain⟨o,g,e,Rz,rfl,ho,qi⟩:∃ o g e Rz,w1=.sl o g 0 R.length 1 false/\s3[o]?=some (.row (D8 ((R.map fun s:Nat=>(s:Int))++Rz)) e g 0)/\2<=o:=by
  cases hc with
  | no h=>rw[show R=[] from Afs.1 h]at h2;simp at h2
  | @obj o g e Rz h qi=>exact⟨o,g,e,Rz,by rw[Ap],h,qi⟩
 have kl:s4[o]?=some (.row (D8 ((R.map fun s:Nat=>(s:Int))++Rz)) e g 0):=(qV o (Ak.1 ho).1).trans ho
 have qW:Li (some (.row (D8 ((R.map fun s:Nat=>(s:Int))++Rz)) e g 0)) g 1 true j=some (iV (r:Int)):=by
  have h5:(D8 ((R.map fun s:Nat=>(s:Int))++Rz))[j]?=some (iV (r:Int)):=by
   unfold D8;rw[Aj,B6 (by simpa using h2),Aj,hr];rfl
  have h6:=(Ak.1 h5).1;rw[Aef,if_pos ⟨rfl,by omega⟩,Fd h6,(Ak.1 h5).2];rfl
 have qO:K.getD r kz=k:=by rw[Av,hk];rfl
 have qE:((R.take (j+1)).map fun s=>K.getD s kz).map Bd=((R.take j).map fun s=>K.getD s kz).map Bd++[[.str k.1,.str k.2.1,iV k.2.2]]:=by
  rw[G7,hr];simp only[U1,Dw,Bb,B7,qO];rfl
 obtain⟨v2,s5,e5,g5,l5,-,k5⟩:=Hl (bytes:=40) (y:=.lst 1 [[.str k.1,.str k.2.1,iV k.2.2]]) (ys:=[[.str k.1,.str k.2.1,iV k.2.2]]) (Gk (l:=[Ob.row [.str k.1,.str k.2.1,iV k.2.2] 47 0 0]) qI) AG rfl AA (H3 _) AH AG;simp only[go_sem,A0 h2,Y0 h2,kl,qW,qN];refine Ad (gk r k hk) AB ?_;simp only[go_sem,e5,j1];refine As (jh (j+1,v2,s5) AD ⟨h2,(k5 0 AA).trans (Bx qN),by simp at l5;simp only;omega,fun i hi=>?_,?_⟩) rfl
 .simp only;rw[k5 i AA,B6 AA];exact qV i hi
 .simp only;rw[qE];exact g5
def Nv(K:List Bm)(M:List Int)(N:List Bm)(s:Nat):Bool:=match K[s]? with
 | some k=>decide (M.getD s 0<0)&&(decide (Gt K k=some s)&&decide (k∈N))
 | none=>false
def Px(K:List Bm)(M:List Int)(N:List Bm)(n:Nat):List Nat:=(List.range n).filter (Nv K M N)
def Aov(K:List Bm)(M:List Int)(N:List Bm):Px K M N K.length=P6 K M N:=by
 unfold Px P6;refine List.filter_congr fun s _=>?_
 unfold Nv
 cases K[s]? with
 | none=>rfl
 | some k=>rw[Xt];simp
def Ax5(K:List Bm)(M:List Int)(N:List Bm)(n:Nat):Px K M N (n+1)=Px K M N n++if Nv K M N n=true then [n] else []:=by
 unfold Px;rw[List.range_succ,List.filter_append,List.filter_cons,List.filter_nil]
def Anf(K:List Bm)(M:List Int)(N:List Bm)(n:Nat):(Px K M N n).length<=n:=by
 unfold Px;have:=List.length_filter_le (Nv K M N) (List.range n)
 rwa [List.length_range]at this
set_option maxHeartbeats 4000000 in
def A4w{p q:Gp}(hp:PY p)(hq:PY q)(z:Bool)(t:Nat)(E:List Ent)(hE:E.length<=1000)(hs:∀ e∈E,e.sites.length<=1000)(hK:(Ew p).length<=1000000000000):
  Fn TT PT 10 [.agg p.row,.agg q.row,SL z t (E.map Ent.row)] (SL true 0 ((W1 (Ew p) (Jd p q) (Di E)).map Bd)):=by
 have g1:=A09 hp hq;have g2:=Ahy hp.px;have gs:=fun k=>A1d hp.px k hK
 have jw:(Jd p q).length=(Ew p).length:=by rw[Ahg];exact Anb p q
 rw[V9]at g2;have qq:=Fh p;have jg:=Fh q;rw[qq]at g1 g2 gs ⊢;rw[jg]at g1 ⊢;generalize Ew p=K at *;generalize Jd p q=M at *;have qF:(E.map Ent.row).length=E.length:=Ap ..;have qG:(K.map Bd).length=K.length:=Ap ..;unfold W1;rw[<-Aov];generalize hN:Di E=N at *;refine Bo T10 rfl ?_;simp only[go_sem];refine Ad g1 AB ?_;simp only[go_sem];refine Ad g2 AB ?_;simp only[go_sem,qG]
 refine Bn (α:=Nat × V × St) (fun a=>K.length - a.1) (fun a=>[(2,SL z t (E.map Ent.row)),(3,.ptr 0 0 0),(7,SL true 0 (C3 M)),(8,a.2.1),(20,SL true 0 (K.map Bd)),(21,iV (K.length:Int)),(22,iV (a.1:Int))]) (fun a=>a.2.2)
  (fun a=>a.1<=K.length/\a.2.2[0]?=some (.row [SL p.dz p.dt (p.decls.map Dp.row),SL p.tz p.tt (p.thrs.map Tp.row)] 29 0 0)/\2<=a.2.2.length/\GW a.2.2 3 47 2 a.2.1 (((Px K M N a.1).map fun s=>K.getD s kz).map Bd)) ?_ (0,.nils,_) ⟨Au _,rfl,by simp,D5⟩
 rintro⟨i,u,s⟩ ⟨hi,h0,qt,hg⟩ ih;simp only at hi h0 qt hg ih;refine Bl Bgd ?_;rcases Be i K.length with h' | h';rotate_left
 .simp only[go_sem,Bq h'];have qn:i=K.length:=by omega
  subst qn;exact Ue hg AA (H3 _) (N7 _)
 obtain⟨k,hk,-,-⟩:=By h';have i1:IntKind.i64.wrap ((i:Int)+1)=((i+1:Nat):Int):=A2 AA;obtain⟨m,hm,-,-⟩:=By (show i<M.length by omega);have qg:(C3 M)[i]?=some [iV m]:=by unfold C3;rw[Aj,hm];rfl
 have qw:M.getD i 0=m:=by rw[Av,hm];rfl
 have hA:∀ J,(s++J)[0]?=some (.row [SL p.dz p.dt (p.decls.map Dp.row),SL p.tz p.tt (p.thrs.map Tp.row)] 29 0 0):=fun J=>Bx h0
 have qr:=Ax5 K M N i
 have qf:Nv K M N i=false->W TT PT (.l [2,3,7,8,20,21,22] lp10_2::.b 0::[.c _]) _ (s++[.row [.str k.1,.str k.2.1,iV k.2.2] 47 0 0]) _:=fun hf=>ih (i+1,u,s++[.row [.str k.1,.str k.2.1,iV k.2.2] 47 0 0]) AD ⟨h',hA _,by simp;omega,by
  simp only;rw[qr,if_neg (by rw[hf];decide),B3]
  exact Gk hg⟩
 by_cases qz:0<=m
 .have f1:(0<=m)=True:=eq_true qz
  have hf:Nv K M N i=false:=by
   unfold Nv;rw[hk];simp only[qw];rw[decide_eq_false (by omega:¬ m<0),Qu]
  simp only[go_sem,A0 h',Aj,hk,Bd,qg,f1,i1];exact As (qf hf) rfl
 have f1:(0<=m)=False:=eq_false qz;have qc:=gs k
 obtain⟨s0,jj⟩:∃ s0,Gt K k=some s0:=by
  cases h:Gt K k with
  | some a=>exact⟨a,rfl⟩
  | none=>exact absurd hk (Ane.1 h i)
 unfold sI at qc;rw[jj]at qc;by_cases jG:s0=i;rotate_left
 .have f2:((s0:Int) != (i:Int))=true:=by simp;omega
  have hf:Nv K M N i=false:=by
   unfold Nv;rw[hk];simp only[jj];rw[decide_eq_false (by simpa using jG:¬ (some s0=some i)),Qu,Aa9]
  simp only[go_sem,A0 h',Aj,hk,Bd,qg,f1,hA];refine Ad qc AB ?_;simp only[go_sem,f2,i1];exact As (qf hf) rfl
 subst jG;have f2:((s0:Int) != (s0:Int))=false:=by simp
 have hF:Nv K M N s0=decide (k∈N):=by
  unfold Nv;rw[hk];simp only[jj,qw];rw[decide_eq_true (by omega:m<0),Xv,decide_true,Xv]
 simp only[go_sem,A0 h',Aj,hk,Bd,qg,f1,hA];refine Ad qc AB ?_;simp only[go_sem,f2,qF];clear qf;obtain⟨sB,qh⟩:∃ sB,sB=s++[Ob.row [.str k.1,.str k.2.1,iV k.2.2] 47 0 0]:=⟨_,rfl⟩;have jA:GW sB 3 47 2 u (((Px K M N s0).map fun s=>K.getD s kz).map Bd):=by rw[qh];exact Gk hg
 have jo:∀ J,(sB++J)[0]?=some (.row [SL p.dz p.dt (p.decls.map Dp.row),SL p.tz p.tt (p.thrs.map Tp.row)] 29 0 0):=fun J=>Bx (by rw[qh];exact hA _)
 have qu:∀ J,(sB++J)[s.length]?=some (.row [.str k.1,.str k.2.1,iV k.2.2] 47 0 0):=fun J=>Bx (by rw[qh];exact Q3 _ _)
 have jL:sB.length=s.length+1:=by rw[qh];simp
 rw[<-qh]
 refine Bn (α:=Nat × St) (fun a=>E.length - a.1) (fun a=>[(2,SL z t (E.map Ent.row)),(3,.ptr 0 0 0),(7,SL true 0 (C3 M)),(8,u),(10,.ptr s.length 0 0),(11,.bool (decide (k∈Di (E.take a.1)))),(20,SL true 0 (K.map Bd)),(21,iV (K.length:Int)),(22,iV (s0:Int)),(39,SL z t (E.map Ent.row)),(40,iV (E.length:Int)),(41,iV (a.1:Int))]) (fun a=>sB++a.2) (fun a=>a.1<=E.length) ?_ (0,[]) (Au _) |> fun h=>As (by rw[B3]at h;exact h) rfl
 rintro⟨x,J⟩ hx xh;simp only at hx xh;refine Bl Bgc ?_;rcases Be x E.length with h2 | h2
 .obtain⟨e,he,-,qP⟩:=By h2;have jT:=hs e qP;have x1:IntKind.i64.wrap ((x:Int)+1)=((x+1:Nat):Int):=A2 AA;have qE:=Aou he;simp only[go_sem,A0 h2,Aj,he]
  refine Bn (α:=Nat × St) (fun a=>e.sites.length - a.1) (fun a=>[(2,SL z t (E.map Ent.row)),(3,.ptr 0 0 0),(7,SL true 0 (C3 M)),(8,u),(10,.ptr s.length 0 0),(11,.bool (decide (k∈Di (E.take x)++e.sites.take a.1))),(20,SL true 0 (K.map Bd)),(21,iV (K.length:Int)),(22,iV (s0:Int)),(39,SL z t (E.map Ent.row)),(40,iV (E.length:Int)),(41,iV (x:Int)),(46,e.sl),(47,iV (e.sites.length:Int)),(48,iV (a.1:Int))]) (fun a=>sB++a.2) (fun a=>a.1<=e.sites.length) ?_ (0,J++[.row [iV e.kind,e.sl,iV e.seen,iV e.missed] 45 0 0]) (Au _) |> fun h=>As (by simp only[Xu,B3]at h;exact h) rfl
  rintro⟨j,J2⟩ hj jh;simp only at hj jh;refine Bl Bgb ?_;rcases Be j e.sites.length with h3 | h3;rotate_left
  .have qo:j=e.sites.length:=by omega
   subst qo;rw[Dc,<-qE];simp only[go_sem,Bq h3,x1];exact As (xh (x+1,J2) AD h2) rfl
  obtain⟨y,hy,-,-⟩:=By h3;have j1:IntKind.i64.wrap ((j:Int)+1)=((j+1:Nat):Int):=A2 AA;have qs:e.sites.take (j+1)=e.sites.take j++[y]:=by rw[G7,hy];rfl
  have qa:Ly 3 e.sl (iV (j:Int))=some (.imm [.str y.1,.str y.2.1,iV y.2.2] 0):=by
   unfold Ent.sl;rw[Ai1,Ah9,Aj,hy];rfl
  have kk:decide (k∈Di (E.take x)++e.sites.take (j+1))=(decide (k∈Di (E.take x)++e.sites.take j)||decide (y=k)):=by
   rw[qs,<-Da,Xt];simp only[decide_eq_true_eq,Il,B8,Eo];constructor
   .rintro(h | h)
    .exact .inl h
    .exact .inr h.symm
   .rintro(h | h)
    .exact .inl h
    .exact .inr h.symm
  have qy:=jh (j+1,J2++[.row [.str y.1,.str y.2.1,iV y.2.2] 47 0 0]) AD h3;simp only[kk]at qy;cases hb:decide (k∈Di (E.take x)++e.sites.take j)
  .rw[hb,U6]at qy;simp only[go_sem,A0 h3,qa,qu,W0,j1];exact As qy rfl
  .rw[hb,Bool.true_or]at qy;simp only[go_sem,A0 h3,qa,j1];exact As qy rfl
 have kv:x=E.length:=by omega
 subst kv;rw[Dc,hN];cases hb:decide (k∈N)
 .rw[hb]at hF;simp only[go_sem,Bq h2,i1]
  exact As (ih (s0+1,u,sB++J) AD ⟨h',jo _,by simp;omega,by
   simp only;rw[qr,if_neg (by rw[hF];decide),B3]
   exact Gk jA⟩) rfl
 .rw[hb]at hF;have kF:=Anf K M N s0;have qO:K.getD s0 kz=k:=by rw[Av,hk];rfl
  obtain⟨v2,s5,e5,g5,l5,-,k5⟩:=Hl (bytes:=40) (y:=.lst 1 [[.str k.1,.str k.2.1,iV k.2.2]]) (ys:=[[.str k.1,.str k.2.1,iV k.2.2]]) (Gk (l:=J) jA) AG rfl AA (H3 _) AH AG;simp only[go_sem,Bq h2,qu,e5,i1];refine As (ih (s0+1,v2,s5) AD ⟨h',(k5 0 AA).trans (jo _),by simp at l5;simp only;omega,?_⟩) rfl;simp only;rw[qr,if_pos hF,Dw,Dw,Bb,B7,qO];exact g5
def Arc(n:Nat){σ:St}{m e lo:Nat}{v:V}{xs:List (List V)}(h:GW σ m e lo v xs):(v.ren (·+n)).refs=v.refs.map (·+n):=by
 rcases h with⟨rfl,-⟩ | ⟨-,i,g,rfl,-⟩
 .rfl
 .rfl
def A4x(σ:St){σ0:St}{lo:Nat}{u:V}{L:List (V × Ent)}(h:NG σ0 lo u L):NG (σ++σ0.map (Ob.ren (·+σ.length))) σ.length (u.ren (·+σ.length)) (L.map fun p=>(p.1.ren (·+σ.length),p.2)):=by
 have qx:∀ (i:Nat) (ob:Ob),σ0[i]?=some ob->(σ++σ0.map (Ob.ren (·+σ.length)))[i+σ.length]?=some (ob.ren (·+σ.length)):=fun i ob ho=>by
  rw[Co AA,Afu,Aj,ho];rfl
 refine⟨?_,fun p hp=>?_⟩
 .rcases h.1 with⟨rfl,h1⟩ | ⟨qZ,i,g,rfl,ho,qi⟩
  .refine .inl ⟨rfl,?_⟩;obtain rfl:L=[]:=by simpa using h1
   rfl
  .refine .inr ⟨by simpa using qZ,i+σ.length,g,by simp[V.ren],?_,by omega⟩;rw[qx i _ ho];simp only[Ob.ren];congr 2
   have:∀ L:List (V × Ent),Fv (·+σ.length) (L.map Ez).flatten=((L.map fun p=>(p.1.ren (·+σ.length),p.2)).map Ez).flatten:=by
    intro L
    induction L with
    | nil=>rfl
    | cons p L ih=>
     simp only[Bb,Dv,Ez,Hz,Cr,Fv,V.ren];rw[ih]
   exact this L
 .obtain⟨p0,qJ,rfl⟩:=Ct.1 hp;refine⟨(h.2 p0 qJ).1,?_⟩;rcases(h.2 p0 qJ).2 with⟨e1,h1⟩ | ⟨qZ,i,g,e1,ho,qi⟩
  .exact .inl ⟨by simp only[e1,V.ren],h1⟩
  .refine .inr ⟨qZ,i+σ.length,g,by simp only[e1,V.ren],?_,by omega⟩;rw[qx i _ ho];simp only[Ob.ren];rw[Qz _ _ fun j hj=>by rw[G8 (Im (N7 _))]at hj;cases hj]
def A4y(n:Nat){σ0:St}{lo:Nat}{u:V}{L:List (V × Ent)}(h:NG σ0 lo u L)(hd:Dj L):Dj (L.map fun p=>(p.1.ren (·+n),p.2)):=by
 unfold Dj at hd ⊢;rw[List.pairwise_map];refine hd.imp_of_mem fun {p q} hp hq km=>?_
 simp only;rw[Arc n (h.2 p hp).2,Arc n (h.2 q hq).2];intro i hi qn;obtain⟨a,ha,rfl⟩:=Ct.1 hi;obtain⟨b,hb,e⟩:=Ct.1 qn;have:b=a:=by omega
 subst this;exact km b ha hb
def Ade{m:Nat}:∀ {xs:List (List V)} {i j:Nat} {r:List V} {c:V},(∀ r∈xs,r.length=m)->xs[i]?=some r->r[j]?=some c->xs.flatten[i*m+j]?=some c
 | x::xs,0,j,r,c,hl,hi,hj=>by
  cases hi;rw[Dv,Xx,E3,B6 (Ak.1 hj).1];exact hj
 | x::xs,i+1,j,r,c,hl,hi,hj=>by
  have hx:=hl x C5;rw[Dv,Co (by rw[hx,Ep];omega),hx,show(i+1)*m+j - m=i*m+j by rw[Ep];omega];exact Ade (fun r hr=>hl r (C4 _ hr)) (by simpa using hi) hj
def Akn{cs:List V}{e g z off:Nat}{c:V}(h:cs[off]?=some c):Li (some (.row cs e g z)) g 1 true off=some c:=by
 obtain⟨hl,rfl⟩:=Ak.1 h;rw[Aef,if_pos ⟨rfl,by omega⟩,Fd hl];rfl
def A9f{m:Nat}{xs:List (List V)}{e g z i:Nat}{r:List V}(hl:∀ r∈xs,r.length=m)(hi:xs[i]?=some r):Li (some (.row xs.flatten e g z)) g m false (i*m)=some (.agg r):=by
 obtain⟨h1,h2⟩:=Ak.1 hi;have hf:=Gw hl;have qX:(i+1)*m<=xs.length*m:=Fp m h1;rw[Ep]at qX;have hr:=hl r (Ge hi)
 have e1:xs.flatten=(xs.take i).flatten++(r++(xs.drop (i+1)).flatten):=by
  rw[<-h2,<-Dv,<-Fd h1,<-Sh,Gq]
 have e2:(xs.take i).flatten.length=i*m:=by rw[Gw fun r hr=>hl r (Ik hr),Eg,Su AA]
 rw[Aef,if_pos ⟨rfl,by omega⟩,e1,<-e2,Af7,<-hr,Sv];rfl
def A9g{m:Nat}{xs:List (List V)}{i:Nat}{r:List V}(hl:∀ r∈xs,r.length=m)(hi:i<xs.length)(hr:r.length=m):xs.flatten.take (i*m)++r++xs.flatten.drop (i*m+m)=(xs.set i r).flatten:=by
 have e1:xs.flatten=(xs.take i).flatten++(xs[i]++(xs.drop (i+1)).flatten):=by
  rw[<-Dv,<-Fd hi,<-Sh,Gq]
 have e2:(xs.take i).flatten.length=i*m:=by rw[Gw fun r hr=>hl r (Ik hr),Eg,Su AA]
 have e3:xs[i].length=m:=hl _ (Fy hi);rw[e1,<-e2,Sv,Af2,Af2,Fo AA,Cr,Fo AA,Cr,show(xs.take i).flatten.length+m - (xs.take i).flatten.length - xs[i].length=0 by omega,I4,List.set_eq_take_append_cons_drop,if_pos hi,Sh,Dv,Da]
def Fk(K:List Bm)(seen:Int)(S:List Bm)(j:Nat):List Bm:=Ld K seen 0 (S.take j)++S.drop j
def Aow(K:List Bm)(seen:Int):∀ (a b:List Bm) (i:Nat),Ld K seen i (a++b)=Ld K seen i a++Ld K seen (i+a.length) b
 | [],b,i=>rfl
 | x::a,b,i=>by rw[Hz,Ld,Ld,Aow K seen a b (i+1),Hz,Am,show i+1+a.length=i+(a.length+1) by omega]
def A4z(K:List Bm)(seen:Int)(S:List Bm)(j:Nat):(Fk K seen S j).length=S.length:=by
 unfold Fk;rw[Al,Tf,<-Al,Gq]
def Ard{K:List Bm}{seen:Int}{S:List Bm}{j:Nat}{k:Bm}(h:S[j]?=some k):(Fk K seen S j)[j]?=some k:=by
 obtain⟨hj,rfl⟩:=Ak.1 h;have hl:(Ld K seen 0 (S.take j)).length=j:=by rw[Tf,Eg,Su AA]
 unfold Fk;rw[Co AA,hl,Gf,Fd hj];rfl
def Are{K:List Bm}{seen:Int}{S:List Bm}{j:Nat}{k:Bm}(h:S[j]?=some k):Fk K seen S (j+1)=(Fk K seen S j).set j (P7 K seen j k):=by
 obtain⟨hj,rfl⟩:=Ak.1 h;have hl:(Ld K seen 0 (S.take j)).length=j:=by rw[Tf,Eg,Su AA]
 unfold Fk;rw[I3 _ _ AA,hl,Gf,Fd hj,Afv,G7,h,U1,Aow,Eg,Su AA,Da];simp only[E3,Ld,Hz,Cr]
def Aox{K:List Bm}{seen:Int}{S:List Bm}{j:Nat}{k:Bm}(h:S[j]?=some k)(hk:P7 K seen j k=k):Fk K seen S (j+1)=Fk K seen S j:=by
 rw[Are h,hk];have h2:=Ard (K:=K) (seen:=seen) h;obtain⟨h3,h4⟩:=Ak.1 h2;rw[<-h4];exact List.set_getElem_self h3
def A1g{σ:St}{m e lo:Nat}{u:V}{xs:List (List V)}(h:GW σ m e lo u xs)(hr:∀ r∈xs,r.all V.rowB=true){args:List V}{v:V}(ha:Ah args=u.refs):∃ σ',after σ args v=σ'/\σ'.length=σ.length/\∀ j,j ∉ u.refs->σ'[j]?=σ[j]?:=by
 refine⟨_,rfl,?_⟩;unfold after
 split
 .exact⟨rfl,fun _ _=>rfl⟩
 .rcases h with⟨rfl,rfl⟩ | ⟨hn,i,g,rfl,ho,qi⟩
  .have:Le σ args=[]:=by unfold Le;rw[ha];rfl
   rw[this];exact⟨rfl,fun _ _=>rfl⟩
  .have:Le σ args=[i]:=by
    unfold Le;rw[ha];have e1:(V.refs (.sl i g 0 xs.length m true)).eraseDups=[i]:=by simp[V.refs,List.eraseDups_cons]
    rw[e1];have hx:Ah xs.flatten=[]:=G8 (Im hr);simp[Fl,ho,Ob.refs,hx]
   rw[this];exact⟨Axf σ i,fun j hj=>Ams σ i j (by simpa[V.refs] using hj)⟩
def Wo(k:Bm):Prop:=0<=k.2.2/\k.2.2<=1000/\k.2.1.length<=1000/\k.1.length<=1000
def Ax6(n:Nat):Wo (Mq n):=by
 unfold Wo Mq;simp only;refine⟨by omega,by omega,?_,?_⟩
 .split
  .decide
  .split<;>decide
 .split
  .decide
  .split<;>decide
def Azb(x:Item):∀ k∈x.ent.sites,Wo k:=fun k hk=>by
 unfold Item.ent at hk;obtain⟨n,-,rfl⟩:=Ct.1 hk;exact Ax6 n
def A1h{K:List Bm}{S:List Bm}{sB:St}{ib gb q:Nat}{kd sn ms:Int}{A B:V}{I:Nat}{k0:List It}{Q:Env->St->Prop}(qG:K.length<=1000000000000)(hS:∀ k∈S,Wo k)(kA:S.length<=1000)(qk:0<=sn/\sn<=1000)
  (jV:ib<sB.length) (hq:sB[q]?=some (.row [iV kd,.sl ib gb 0 S.length 3 true,iV sn,iV ms] 45 0 0)) (ko:q≠ib)
  (qQ:W TT PT k0 [(6,.ptr 1 0 0),(7,SL true 0 (K.map Bd)),(8,.ptr 2 0 0),(10,.ptr q 0 0),(19,A),(20,B),(21,iV (I:Int)),(27,iV (S.length:Int)),(28,iV (S.length:Int))] (sB.set ib (.row ((Fk K sn S S.length).map Bd).flatten 47 gb 0)) Q) :
  ∀ j,j<=S.length->W TT PT (.l [6,7,8,10,19,20,21,27,28] lp7_0::.b 2::k0) [(6,.ptr 1 0 0),(7,SL true 0 (K.map Bd)),(8,.ptr 2 0 0),(10,.ptr q 0 0),(19,A),(20,B),(21,iV (I:Int)),(27,iV (S.length:Int)),(28,iV (j:Int))] (sB.set ib (.row ((Fk K sn S j).map Bd).flatten 47 gb 0)) Q:=by
 refine Bn (α:=Nat) (fun j=>S.length - j) _ _ _ ?_;intro j hj jh;have qv:(K.map Bd).length=K.length:=Ap ..;refine Bl Bjg ?_;rcases Be j S.length with h2 | h2;rotate_left
 .have qo:j=S.length:=by omega
  subst qo;simp only[go_sem,Bq h2];exact qQ
 obtain⟨k,hk,-,jY⟩:=By h2;have jZ:=hS k jY;unfold Wo at jZ;have j1:IntKind.i64.wrap ((j:Int)+1)=((j+1:Nat):Int):=A2 AA;have kh:=A4z K sn S j;have kg:=Ard (K:=K) (seen:=sn) hk;have qg:((Fk K sn S j).map Bd)[j]?=some [.str k.1,.str k.2.1,iV k.2.2]:=by rw[Aj,kg];rfl
 have c0:=Ade (j:=0) (c:=.str k.1) (H3 _) qg rfl;have c1:=Ade (j:=1) (c:=.str k.2.1) (H3 _) qg rfl;have c2:=Ade (j:=2) (c:=iV k.2.2) (H3 _) qg rfl;rw[Ll]at c0;have l0:=Akn (e:=47) (g:=gb) (z:=0) c0;have l1:=Akn (e:=47) (g:=gb) (z:=0) c1;have l2:=Akn (e:=47) (g:=gb) (z:=0) c2;have gi:(sB.set ib (.row ((Fk K sn S j).map Bd).flatten 47 gb 0))[ib]?=some (.row ((Fk K sn S j).map Bd).flatten 47 gb 0):=B5 jV;have gq:(sB.set ib (.row ((Fk K sn S j).map Bd).flatten 47 gb 0))[q]?=some (.row [iV kd,.sl ib gb 0 S.length 3 true,iV sn,iV ms] 45 0 0):=by rw[Bh (Ne.symm ko)];exact hq
 have w1:IntKind.i64.wrap (3*(k.2.1.length:Int))=3*(k.2.1.length:Int):=Ch AA;have w2:IntKind.i64.wrap (k.2.2+3*(k.2.1.length:Int))=k.2.2+3*(k.2.1.length:Int):=Ch AA;have w3:IntKind.i64.wrap (5*(k.1.length:Int))=5*(k.1.length:Int):=Ch AA;have w4:IntKind.i64.wrap (k.2.2+3*(k.2.1.length:Int)+5*(k.1.length:Int))=N2 k:=by rw[Ch AA];rfl
 have kG:0<=N2 k/\N2 k<=20000:=by unfold N2;omega
 generalize qD:sB.set ib (.row ((Fk K sn S j).map Bd).flatten 47 gb 0)=st at *;simp only[go_sem,A0 h2];refine Ag AE ?_;simp only[go_sem,gq,gi,Y0 h2,l0,l1,l2,w1,w2,w3,w4];by_cases ju:K.length=0
 .have f1:((0:Int)<(K.length:Int))=False:=eq_false AA;have hp:P7 K sn j k=k:=by unfold P7;rw[if_pos (.inl ju)]
  have qd:=jh (j+1) AA h2;rw[Aox hk hp,qD]at qd;simp only[go_sem,qv,f1,j1];exact As qd rfl
 have f1:((0:Int)<(K.length:Int))=True:=eq_true AA;by_cases h7:(N2 k).tmod 7=0
 .have f2:((0:Int) != 0)=false:=rfl;have hp:P7 K sn j k=k:=by unfold P7;rw[if_pos (.inr h7)]
  have qd:=jh (j+1) AA h2;rw[Aox hk hp,qD]at qd;simp only[go_sem,qv,f1,h7,f2,j1];exact As qd rfl
 have f2:((N2 k).tmod 7 != 0)=true:=by simpa using h7
 obtain⟨a,ha⟩:∃ a:Nat,N2 k=(a:Int):=⟨(N2 k).toNat,by omega⟩;obtain⟨b,hb⟩:∃ b:Nat,sn=(b:Int):=⟨sn.toNat,by omega⟩
 have kB:b*j<=1000000:=by
  have h1:b<=1000:=by omega
  have h3:j<=1000:=by omega
  calc b*j<=1000*1000:=Nat.mul_le_mul h1 h3
   _=1000000:=rfl
 have w5:IntKind.i64.wrap (sn*(j:Int))=((b*j:Nat):Int):=by
  rw[hb,show(b:Int)*(j:Int)=((b*j:Nat):Int) by simp,Ch AA]
 have w6:IntKind.i64.wrap (N2 k+((b*j:Nat):Int))=((a+b*j:Nat):Int):=by rw[ha,Ch AA];simp
 have r1:(((a+b*j:Nat):Int)).tmod (K.length:Int)=(((a+b*j) % K.length:Nat):Int):=Zz _ _;have hc:(a+b*j) % K.length<K.length:=Pg _ AA;obtain⟨y,hy,-,-⟩:=By hc;have kw:(K.map Bd)[(a+b*j) % K.length]?=some [.str y.1,.str y.2.1,iV y.2.2]:=by rw[Aj,hy];rfl
 have hp:P7 K sn j k=y:=by
  unfold P7
  rw[if_neg (by
   rintro(h | h)
   .exact ju h
   .exact h7 h),ha,hb,show((a:Int)+(b:Int)*(j:Int))=((a+b*j:Nat):Int) by simp,r1,Md,Av,hy]
  rfl
 have qd:=jh (j+1) AA h2;rw[Are hk,hp,Abf]at qd;have qq:=A9g (r:=[V.str y.1,V.str y.2.1,iV y.2.2]) (H3 (Fk K sn S j)) (i:=j) (by rw[Ap];omega) rfl;have jU:=Gw (H3 (Fk K sn S j));rw[Ap,kh]at jU;have qX:(j*3+3<=((Fk K sn S j).map Bd).flatten.length)=True:=eq_true AA;rw[show(Bd y)=[V.str y.1,V.str y.2.1,iV y.2.2] from rfl,<-qq]at qd;have jk:sB.set ib (.row (((Fk K sn S j).map Bd).flatten.take (j*3)++[V.str y.1,V.str y.2.1,iV y.2.2]++((Fk K sn S j).map Bd).flatten.drop (j*3+3)) 47 gb 0)=st.set ib (.row (((Fk K sn S j).map Bd).flatten.take (j*3)++[V.str y.1,V.str y.2.1,iV y.2.2]++((Fk K sn S j).map Bd).flatten.drop (j*3+3)) 47 gb 0):=by rw[<-qD,Qv]
 rw[jk]at qd;simp only[Da,Hz,Cr]at qd;have jX:(K.length:Int)≠0:=by omega
 simp only[go_sem,qv,f1,f2];refine Ag AE ?_;simp only[go_sem,gq,gi,Y0 h2,w5,w6,qv,r1,kw,jX,qX];refine Tm (by repeat (first | exact trivial | refine⟨.inl (by rfl),?_⟩ | refine⟨by rfl,?_⟩ | refine⟨.inr ⟨by rfl,by rfl⟩,?_⟩)) (by repeat (first | exact trivial | refine⟨.inl (by rfl),?_⟩ | refine⟨by rfl,?_⟩ | refine⟨.inr ⟨by rfl,by rfl⟩,?_⟩)) ?_;simp only[go_sem,j1];exact As qd rfl
def Qh(K:List Bm)(l:List Item):List Ent:=Ii K (Fw l 20) (Fw l 20).length
def A9h(x:Item):0<=x.ent.seen/\x.ent.seen<=1000:=by
 unfold Item.ent;simp only;omega
def A1i{p:Gp}(hp:PX p)(z:Bool)(t:Nat)(l:List Item)(n:Nat)(hn:n<256)(hl:l.length<=9223372036854775807)(jd:∀ x∈l,x.ok)(qG:(Ew p).length<=1000000000000):
  Fn TT PT 7 [.agg p.row,SL z t (l.map Item.row),.int .u8 n] (.agg [iV (n:Int),SL true 0 ((Qh (Ew p) l).map Ent.row)]):=by
 have g2:=Ahy hp;rw[V9]at g2;have qq:=Fh p;rw[qq]at g2 ⊢;obtain⟨b1,b2,b3⟩:=Acc l 20;obtain⟨u0,σ0,jS,L0,hg,hL,kC,jR⟩:=Axm z t l hl jd;have w1:IntKind.i64.wrap (n:Int)=n:=Ch AA;unfold Qh
 have qB:∀ e∈Fw l 20,(∀ k∈e.sites,Wo k)/\e.sites.length<=1000/\(0<=e.seen/\e.seen<=1000):=fun e he=>by
  obtain⟨y,-,rfl⟩:=b3 e he;refine⟨Azb y,?_,A9h y⟩;rw[X5];have:=Zg y.kind;omega
 clear b3;generalize hE:Fw l 20=E at *;generalize Ew p=K at *;have qv:(K.map Bd).length=K.length:=Ap ..;obtain⟨σ1,qL⟩:∃ σ1:St,σ1=[.row [SL p.dz p.dt (p.decls.map Dp.row),SL p.tz p.tt (p.thrs.map Tp.row)] 29 0 0,.row [iV 0,.nils] 35 0 0,.row [iV (n:Int),.nils] 35 0 0]:=⟨_,rfl⟩;have qH:=CallS.own (σ:=σ1) (Vq (vs:=[SL z t (l.map Item.row)]) AB) jS;rw[A7k (S8 AB)]at qH;have qb:=A4x σ1 hg;have jQ:=A4y σ1.length hg jR;have jv:(L0.map fun p=>(p.1.ren (·+σ1.length),p.2)).map (·.2)=E:=by rw[Na];exact hL
 have ku:σ1.length=3:=by rw[qL];rfl
 have hJ:∀ j,j<3->(σ1++σ0.map (Ob.ren (·+σ1.length)))[j]?=σ1[j]?:=fun j hj=>B6 AA
 have e1:=(hJ 1 AA).trans (show σ1[1]?=some (.row [iV 0,.nils] 35 0 0) by rw[qL];rfl);have e2:=(hJ 2 AA).trans (show σ1[2]?=some (.row [iV (n:Int),.nils] 35 0 0) by rw[qL];rfl);generalize u0.ren (·+σ1.length)=u at qH qb;generalize qD:σ1++σ0.map (Ob.ren (·+σ1.length))=st at *;generalize(L0.map fun p=>(p.1.ren (·+σ1.length),p.2))=L at *;rw[ku]at qb;have kJ:=Cu qb.1;have jI:=Bcg qb.1;rw[Ap]at jI;have jN:L.length=E.length:=by rw[<-jv,Ap]
 rw[qL]at qH;refine Bo T7 rfl ?_;simp only[go_sem];refine Ad g2 AB ?_;simp only[go_sem,w1];refine Ju qH ?_;simp only[go_sem,jI]
 refine Bn (α:=Nat × St) (fun a=>L.length - a.1) (fun a=>[(6,.ptr 1 0 0),(7,SL true 0 (K.map Bd)),(8,.ptr 2 0 0),(19,u),(20,iV (L.length:Int)),(21,iV (a.1:Int))]) (fun a=>a.2)
  (fun a=>a.1<=L.length/\a.2[1]?=some (.row [iV 0,.nils] 35 0 0)/\a.2[2]?=some (.row [iV (n:Int),SL true 0 ((Ii K E a.1).map Ent.row)] 35 0 0)/\GW a.2 4 45 3 u (L.map Ez)/\∀ q∈L.drop a.1,q.2.sites≠[]/\GW a.2 3 47 3 q.1 (q.2.sites.map Bd)) ?_ (0,st) ⟨Au _,e1,e2,qb.1,fun q hq=>qb.2 q (by simpa using hq)⟩
 clear e1 e2 qD hJ;rintro⟨i,s⟩ ⟨hi,h1,h2,jB,qR⟩ ih;simp only at hi h1 h2 jB qR ih;obtain⟨v1,v2,v3⟩:=Ah1 K E i;refine Bl Bjh ?_;rcases Be i L.length with h' | h';rotate_left
 .have qn:i=L.length:=by omega
  subst qn;have g1:=fun X:Ob=>B5 (a:=X) (Ak.1 h1).1
  simp only[go_sem,Bq h',h2,h1,g1];rw[jN];exact Gm AB
 obtain⟨q,hq,jf,kH⟩:=By h';have jt:E[i]?=some q.2:=by rw[<-jv,Aj,hq];rfl
 obtain⟨jl,qt,qk⟩:=qB q.2 (Ge jt);obtain⟨jF,kn⟩:=qR q (by rw[jf];exact C5);have i1:IntKind.i64.wrap ((i:Int)+1)=((i+1:Nat):Int):=A2 AA;rcases jB with⟨-,jM⟩ | ⟨ki,iu,g,jH,ho,qi⟩
 .rw[show L=[] by simpa using jM]at h';simp at h'
 rw[Ap]at jH;rcases kn with⟨-,qJ⟩ | ⟨-,ib,gb,je,jc,qS⟩
 .exact absurd (by simpa using qJ) jF
 rw[Ap]at je;have qT:=(Ak.1 jc).1
 have jW:iu≠ib:=by
  rintro rfl;have h:=ho.symm.trans jc;simp only[Xn,Ob.row.injEq]at h;exact absurd h.2.1 (by decide)
 have kj:(L.map Ez)[i]?=some [iV q.2.kind,.sl ib gb 0 q.2.sites.length 3 true,iV q.2.seen,iV q.2.missed]:=by
  rw[Aj,hq,<-je];rfl
 have qW:=A9f (e:=45) (g:=g) (z:=0) (Pi L) kj;obtain⟨sB,qh⟩:∃ sB:St,sB=s++[.row [iV q.2.kind,.sl ib gb 0 q.2.sites.length 3 true,iV q.2.seen,iV q.2.missed] 45 0 0]:=⟨_,rfl⟩;have jL:sB.length=s.length+1:=by rw[qh];simp
 have jp:∀ j,j<s.length->sB[j]?=s[j]?:=fun j hj=>by rw[qh,B6 hj]
 have qu:sB[s.length]?=some (.row [iV q.2.kind,.sl ib gb 0 q.2.sites.length 3 true,iV q.2.seen,iV q.2.missed] 45 0 0):=by rw[qh];exact Q3 _ _
 have jK:=(Ak.1 h2).1
 have ke:sB=sB.set ib (.row ((Fk K q.2.seen q.2.sites 0).map Bd).flatten 47 gb 0):=by
  have h3:Fk K q.2.seen q.2.sites 0=q.2.sites:=by unfold Fk;simp[Ld]
  rw[h3];exact(Lo ((jp ib qT).trans jc)).symm
 have kf:Fk K q.2.seen q.2.sites q.2.sites.length=(q.2.sto K).sites:=by
  unfold Fk Ent.sto;simp
 subst jH;simp only[go_sem,A0 h',Y0 h',ho,qW];rw[<-qh,ke];refine As (A1h qG jl qt qk AA qu AA ?_ 0 (Au _)) rfl;rw[kf];have jm:(q.2.sto K).sites.length=q.2.sites.length:=Tf _ _ _ _;obtain⟨sE,qA⟩:∃ sE:St,sE=sB.set ib (.row (((q.2.sto K).sites.map Bd).flatten) 47 gb 0):=⟨_,rfl⟩;have qF:sE.length=sB.length:=by rw[qA];simp
 have js:∀ j,j<s.length->j≠ib->sE[j]?=s[j]?:=fun j hj ja=>by rw[qA,Bh (Ne.symm ja)];exact jp j hj
 have gq:sE[s.length]?=some (.row [iV q.2.kind,.sl ib gb 0 q.2.sites.length 3 true,iV q.2.seen,iV q.2.missed] 45 0 0):=by rw[qA,Bh AA];exact qu
 have g2:=(js 2 jK AA).trans h2
 have jC:GW sE 3 47 3 (.sl ib gb 0 q.2.sites.length 3 true) ((q.2.sto K).sites.map Bd):=by
  refine .inr ⟨fun e=>?_,ib,gb,by rw[Ap,jm],?_,qS⟩
  .have h3:=congrArg List.length e;rw[Ap,jm]at h3;exact jF (Qp.1 h3)
  .rw[qA,B5 AA]
 obtain⟨s',ha,kD,jz⟩:=A1g jC (N7 _) (args:=[SL true 0 ((Ii K E i).map Ent.row),.agg [iV q.2.kind,.sl ib gb 0 q.2.sites.length 3 true,iV q.2.seen,iV q.2.missed]]) (v:=SL true 0 ((Jg (q.2.sto K) (Ii K E i)).map Ent.row)) (by simp[Ah,V.refs,Vg (Is _ _ _)])
 have qU:Fn TT PT 22 [SL true 0 ((Ii K E i).map Ent.row),.agg [iV q.2.kind,SL true 0 ((q.2.sto K).sites.map Bd),iV q.2.seen,iV q.2.missed]] (SL true 0 ((Jg (q.2.sto K) (Ii K E i)).map Ent.row)):=
  Az1 (Ii K E i) (q.2.sto K) AA (fun e he=>by
   obtain⟨y,hy,rfl⟩:=v3 e he;have h3:(y.sto K).sites.length=y.sites.length:=Tf _ _ _ _;have:=(qB y hy).2.1
   omega) (by rw[jm];omega)
 rw[<-qA];have qK:=(jz 2 (by simp[V.refs];omega)).trans g2;simp only[go_sem,g2,gq];refine Bf1 (.cons (Jy (Adi ..)) (.cons (Tv (.cons (Ff rfl) (.cons (Mp jC AA (H3 _) (N7 _)) (.cons (Ff rfl) (.cons (Ff rfl) .nil))))) .nil)) qU ha ?_
 have qe:∀ j,j<s.length->j≠ib->j≠2->∀ X:Ob,(s'.set 2 X)[j]?=s[j]?:=fun j hj h3 h4 X=>by
  rw[Bh (Ne.symm h4),jz j (by simpa[V.refs] using h3)];exact js j hj h3
 simp only[go_sem,qK,i1];refine As (ih (i+1,_) AD ⟨h',?_,?_,?_,?_⟩) rfl
 .simp only;rw[qe 1 AA AA AA];exact h1
 .simp only;rw[B5 AA,Aos jt]
 .refine .inr ⟨ki,iu,g,by rw[Ap],?_,qi⟩;simp only;rw[qe iu (Ak.1 ho).1 jW AA];exact ho
 .intro r hr;have kq:r∈L.drop i:=by rw[jf];exact C4 _ hr
  obtain⟨r1,r2⟩:=qR r kq;refine⟨r1,?_⟩;rcases r2 with r2 | ⟨r2,jb,gj,r3,r4,r5⟩
  .exact .inl r2
  .refine .inr ⟨r2,jb,gj,r3,?_,r5⟩;have h5:=jQ.sublist (List.drop_sublist i L);rw[jf]at h5;have qm:=(Sm.1 h5).1 r hr;have qm:=qm ib (by rw[je];simp[V.refs]);have ja:jb≠ib:=fun e=>qm (by rw[r3,e];simp[V.refs])
   simp only;rw[qe jb (Ak.1 r4).1 ja AA];exact r4
def Bdx{p:Gp}(hp:PY p):(Ew p).length<=1000000000000:=by
 have h1:(Hq (Hn p)).length=(Ig p).length:=Ab1 p.thrs;have:=Yq hp.px;rw[Ahg];omega
def Azc(K:List Bm)(l:List Item):(Qh K l).length<=20/\∀ e∈Qh K l,e.sites.length<=4:=by
 obtain⟨b1,b2,b3⟩:=Acc l 20;obtain⟨v1,v2,v3⟩:=Ah1 K (Fw l 20) (Fw l 20).length;refine⟨by unfold Qh;omega,fun e he=>?_⟩;obtain⟨y,hy,rfl⟩:=v3 e he;obtain⟨x,-,rfl⟩:=b3 y hy;have h3:(x.ent.sto K).sites.length=x.ent.sites.length:=Tf _ _ _ _;rw[h3,X5];exact(Zg x.kind).2
set_option maxHeartbeats 4000000 in
def Ax7(z0 z1 z2:Bool)(t0 t1 t2:Nat)(a b c:List UInt8)(un:Bool)(z:Bool)(t:Nat)(l:List Item)(n:Nat)(ha:a.length<=9223372036854775807)(hb:b.length<=9223372036854775807)(hc:c.length<=9223372036854775807)(hn:n<256)(hl:l.length<=9223372036854775807)(jd:∀ x∈l,x.ok):
  Fn TT PT 3 [.agg [SL z0 t0 (Bs a),SL z1 t1 (Bs b),SL z2 t2 (Bs c),.bool un],SL z t (l.map Item.row),.int .u8 n] (.bool true):=by
 obtain⟨v,q1,A,B,ok,rfl,hv⟩:=Ax4 z0 z1 z2 t0 t1 t2 a b c un ha hb hc;have jn:=Fh A;have jq:=Fh B;rw[jn,jq]at q1;refine Bo T3 rfl ?_;simp only[go_sem];refine Ad q1 AB ?_;simp only[go_sem];cases ok
 .simp only[go_sem];refine Ad Anc AB ?_;simp only[go_sem];exact An rfl rfl
 obtain⟨pA,pB,-⟩:=hv rfl;have hK:=Bdx pA;obtain⟨kI,qK⟩:=Azc (Ew A) l;have g1:=A1i pA.px z t l n hn hl jd hK;have g2:=A4v pA pB true 0 (Qh (Ew A) l) AA (fun e he=>by have:=qK e he;omega) hK;have g3:=A4w pA pB true 0 (Qh (Ew A) l) AA (fun e he=>by have:=qK e he;omega) hK
 have g4:=A4s true true 0 0 (W1 (Ew A) (Jd A B) (Di (Qh (Ew A) l))) (by
  unfold W1;rw[Ap,<-Aov];have:=Anf (Ew A) (Jd A B) (Di (Qh (Ew A) l)) (Ew A).length
  omega)
 rw[jn]at g1 g2 g3;rw[jq]at g2 g3;simp only[go_sem];refine Ad g1 AB ?_;simp only[go_sem];refine Ag AE ?_;simp only[go_sem];refine Bk g2 AB ?_;simp only[go_sem];refine Bk g3 AB ?_;simp only[go_sem];refine Bk g4 AB ?_;simp only[go_sem];refine Bk Anc AB ?_;simp only[go_sem];exact An rfl rfl
