/- Walks: names and expressions as the static rules see them. -/
import Derived.Test.YthlbbjcbmojocacGreatDoorMh
set_option linter.all false
namespace Go.Proofs.YthlbbjcbmojocacGreatDoor.KM
open Go
def Bz{α:Type}(p:α->Bool):List α->Int
 | [] => -1
 | a::l=>if p a then 0 else if Bz p l<0 then -1 else Bz p l+1
def Ac5{α:Type}(p:α->Bool):∀ l:List α,-1<=Bz p l/\Bz p l<l.length
 | []=>by simp[Bz]
 | a::l=>by
  have:=Ac5 p l;simp only[Bz,Am]
  split
  .omega
  .split<;>omega
def Ac6{α:Type}{p:α->Bool}:∀ {l:List α} {i:Nat} {a:α},(∀ b∈l.take i,p b=false)->l[i]?=some a->p a=true->Bz p l=i
 | [],i,a,_,h,_=>by simp at h
 | b::l,0,a,_,h,hp=>by
  simp at h;subst h;simp[Bz,hp]
 | b::l,i+1,a,hn,h,hp=>by
  have h1:=Ac6 (l:=l) (i:=i) (a:=a) (fun c hc=>hn c (by simp[hc])) (by simpa using h) hp;have h2:=hn b (by simp);simp only[Bz,h2,h1];simp;omega
def Aci{α:Type}{p:α->Bool}:∀ {l:List α},(∀ b∈l,p b=false)->Bz p l = -1
 | [],_=>rfl
 | b::l,h=>by
  simp only[Bz,h b (by simp),Aci (l:=l) fun c hc=>h c (by simp[hc])];simp
def Ac7{α:Type}{p:α->Bool}{l:List α}(h:0<=Bz p l):∃ (i:Nat) (a:α),Bz p l=i/\l[i]?=some a/\i<l.length:=by
 have h2:=(Ac5 p l).2;obtain⟨i,hi⟩:∃ i:Nat,Bz p l=i:=⟨(Bz p l).toNat,by omega⟩;exact⟨i,l[i]'(by omega),hi,Bc (by omega),by omega⟩
def Ahc{α:Type}{p:α->Bool}{l:List α}{i:Nat}{a:α}(h:∀ b∈l.take i,p b=false)(ha:l[i]?=some a)(hp:p a=false):∀ b∈l.take (i+1),p b=false:=by
 intro b hb;rw[Af8,ha]at hb;rcases B8.1 hb with hb | hb
 .exact h b hb
 .simp at hb;rw[hb];exact hp
def Wk(z:Bool)(t:Nat)(l:List (List UInt8))(s:List UInt8)(hl:l.length<=9223372036854775806):Fn TT PT 134 [SL z t (l.map fun x=>[V.str x]),.str s] (iV (Bz (·==s) l)):=by
 have n1:(l.map fun x=>[V.str x]).length=l.length:=Ap ..;refine Bo T134 rfl ?_;simp only[go_sem];refine Bn (α:=Nat) (fun i=>l.length - i) (fun i=>[(0,SL z t (l.map fun x=>[V.str x])),(1,.str s),(5,iV (i:Int))]) (fun _=>[]) (fun i=>i<=l.length/\∀ b∈l.take i,(b==s)=false) ?_ 0 ⟨Au _,by simp⟩;rintro i ⟨hi,hc⟩ ih;refine Bl Bb1 ?_;rcases Be i l.length with h' | h'
 .obtain⟨x,hx,-,-⟩:=By h';cases hp:(x==s)
  .simp only[go_sem,n1,A0 h',Aj,hx,hp,A2 (show i<9223372036854775807 by omega)];exact As (ih (i+1) (by omega) ⟨h',Ahc hc hx hp⟩) rfl
  .rw[Ac6 hc hx hp];simp only[go_sem,n1,A0 h',Aj,hx,hp];exact An rfl rfl
 .rw[Kz h']at hc;rw[Aci hc];simp only[go_sem,n1,Bq h'];exact An rfl rfl
def Wl(z:Bool)(t:Nat)(l:List Dp)(s:List UInt8)(hl:l.length<=9223372036854775806):Fn TT PT 132 [SL z t (l.map Dp.row),.str s] (iV (Bz (fun d:Dp=>d.nm==s) l)):=by
 have n1:(l.map Dp.row).length=l.length:=Ap ..;refine Bo T132 rfl ?_;simp only[go_sem];refine Bn (α:=Nat) (fun i=>l.length - i) (fun i=>[(0,SL z t (l.map Dp.row)),(1,.str s),(5,iV (i:Int))]) (fun _=>[]) (fun i=>i<=l.length/\∀ b∈l.take i,(b.nm==s)=false) ?_ 0 ⟨Au _,by simp⟩;rintro i ⟨hi,hc⟩ ih;refine Bl Bbz ?_;rcases Be i l.length with h' | h'
 .obtain⟨x,hx,-,-⟩:=By h';have qc:x.row=[iV x.kind,iV x.line,.str x.nm,iV x.size,iV x.init,.str x.on]:=rfl;cases hp:(x.nm==s)
  .simp only[go_sem,n1,A0 h',Aj,hx,qc,hp,A2 (show i<9223372036854775807 by omega)];exact As (ih (i+1) (by omega) ⟨h',Ahc (p:=fun d:Dp=>d.nm==s) hc hx hp⟩) rfl
  .rw[Ac6 (p:=fun d:Dp=>d.nm==s) hc hx hp];simp only[go_sem,n1,A0 h',Aj,hx,qc,hp];exact An rfl rfl
 .rw[Kz h']at hc;rw[Aci hc];simp only[go_sem,n1,Bq h'];exact An rfl rfl
def Adz(z:Bool)(t:Nat)(l:List Tp)(s:List UInt8)(hl:l.length<=9223372036854775806):Fn TT PT 133 [SL z t (l.map Tp.row),.str s] (iV (Bz (fun d:Tp=>d.nm==s) l)):=by
 have n1:(l.map Tp.row).length=l.length:=Ap ..;refine Bo T133 rfl ?_;simp only[go_sem];refine Bn (α:=Nat) (fun i=>l.length - i) (fun i=>[(0,SL z t (l.map Tp.row)),(1,.str s),(5,iV (i:Int))]) (fun _=>[]) (fun i=>i<=l.length/\∀ b∈l.take i,(b.nm==s)=false) ?_ 0 ⟨Au _,by simp⟩;rintro i ⟨hi,hc⟩ ih;refine Bl Bb0 ?_;rcases Be i l.length with h' | h'
 .obtain⟨x,hx,-,-⟩:=By h';have qc:x.row=[.str x.nm,iV x.line,SL x.lz x.lt (x.locals.map fun s=>[V.str s]),SL x.bz x.bt (x.body.map Sp.row)]:=rfl;cases hp:(x.nm==s)
  .simp only[go_sem,n1,A0 h',Aj,hx,qc,hp,A2 (show i<9223372036854775807 by omega)];exact As (ih (i+1) (by omega) ⟨h',Ahc (p:=fun d:Tp=>d.nm==s) hc hx hp⟩) rfl
  .rw[Ac6 (p:=fun d:Tp=>d.nm==s) hc hx hp];simp only[go_sem,n1,A0 h',Aj,hx,qc,hp];exact An rfl rfl
 .rw[Kz h']at hc;rw[Aci hc];simp only[go_sem,n1,Bq h'];exact An rfl rfl
structure LnG (p:Gp):Prop where
 d:p.decls.length<=1000000000
 t:p.thrs.length<=1000000000
 l:∀ t∈p.thrs,t.locals.length<=1000000000
def Aue{α:Type}{p:α->Bool}{l:List α}(h:¬ 0<=Bz p l):Bz p l = -1:=by
 have:=Ac5 p l;omega
def Aem(x:Gp):x.row.all V.rowB=true:=by
 unfold Gp.row;simp only[Aw,Bi,Is];rfl
def A8l{a b:V}(h:[a,b].all V.rowB=true):a.cellB=true/\b.cellB=true:=by
 have h:=Adj h;simp only[Aw,Bi,U5,Af]at h;exact h
def Ul(x:Gp):x.row=[SL x.dz x.dt (x.decls.map Dp.row),SL x.tz x.tt (x.thrs.map Tp.row)]:=rfl
def Np{R:V->Prop}{f p:Nat}{res:List AR}{body:AC}{vs:List V}(hT:TT f=some ⟨p,res,false,body,none⟩)(hl:vs.length=p)(h:W TT PT [.c body] (Dd 0 vs) [] (Hd fun e' σ1=>∃ v,Cd e' σ1 res=some v/\(Cm v=true/\v.refs=[]/\Ex [] v=some v)/\R v)):∃ v,Fn TT PT f vs v/\R v:=by
 obtain⟨e',σ',hE,v,hr,h1,h2⟩:=h;exact⟨v,Ape hT rfl rfl hl ⟨e',σ',hE,v,hr,h1⟩,h2⟩
set_option maxHeartbeats 1000000 in
def A8m{p:Gp}(hp:LnG p)(th:Int)(s:List UInt8):∃ v,Fn TT PT 190 [.agg p.row,iV th,.str s] v/\∃ k:Int,v=iV k/\(k=5->0<=Bz (fun d:Dp=>d.nm==s) p.decls):=by
 obtain⟨dz,dt,decls,tz,tt,thrs⟩:=p;obtain⟨h1,h2,h3⟩:=hp;simp only at h1 h2 h3 ⊢;unfold Gp.row;simp only;have n1:(decls.map Dp.row).length=decls.length:=Ap ..;have n2:(thrs.map Tp.row).length=thrs.length:=Ap ..;have hd:=Wl dz dt decls s (by omega);have ht:=Adz tz tt thrs s (by omega);refine Np T190 rfl ?_;refine F0 (fun e σ=>e=[(1,iV th),(2,.str s),(3,.ptr 0 0 0)]/\σ=[.row [SL dz dt (decls.map Dp.row),SL tz tt (thrs.map Tp.row)] 29 0 0]) (fun k' hk=>?_) ?_
 .simp only[go_sem];exact hk _ _ ⟨rfl,rfl⟩
 rintro e σ ⟨rfl,rfl⟩;refine F0 (fun e σ=>e=[(2,.str s),(3,.ptr 0 0 0)]/\σ=[.row [SL dz dt (decls.map Dp.row),SL tz tt (thrs.map Tp.row)] 29 0 0]) (fun k' hk=>?_) ?_
 .by_cases c1:0<=th
  .have f1:((0:Int)<=th)=True:=eq_true c1;by_cases c2:th<thrs.length
   .obtain⟨i,rfl⟩:∃ i:Nat,th=i:=⟨th.toNat,by omega⟩;have f2:((i:Int)<(thrs.length:Int))=True:=eq_true c2;obtain⟨x,hx,-,hm⟩:=By (l:=thrs) (i:=i) (by omega);have qc:x.row=[.str x.nm,iV x.line,SL x.lz x.lt (x.locals.map fun s=>[V.str s]),SL x.bz x.bt (x.body.map Sp.row)]:=rfl;have ha:=Wk x.lz x.lt x.locals s (by have:=h3 x hm;omega);simp only[go_sem,f1,f2,n2,Aj,hx,qc,ge_iff_le];refine Ad ha (by simp only[go_sem]) ?_;by_cases c3:0<=Bz (·==s) x.locals
    .have f3:(0<=Bz (·==s) x.locals)=True:=eq_true c3;simp only[go_sem,f3,ge_iff_le];exact⟨_,rfl,⟨rfl,rfl,rfl⟩,8,rfl,by omega⟩
    .have f3:(0<=Bz (·==s) x.locals)=False:=eq_false c3;simp only[go_sem,f3,ge_iff_le];exact hk _ _ ⟨rfl,rfl⟩
   .have f2:(th<(thrs.length:Int))=False:=eq_false c2;simp only[go_sem,f1,f2,n2,ge_iff_le];exact hk _ _ ⟨rfl,rfl⟩
  .have f1:((0:Int)<=th)=False:=eq_false c1;simp only[go_sem,f1,ge_iff_le];exact hk _ _ ⟨rfl,rfl⟩
 rintro e σ ⟨rfl,rfl⟩;by_cases c:0<=Bz (fun d:Dp=>d.nm==s) decls
 .obtain⟨i,x,e,hx,hi⟩:=Ac7 c;rw[e]at hd;have f1:((i:Int)<0)=False:=eq_false (by omega);have qc:x.row=[iV x.kind,iV x.line,.str x.nm,iV x.size,iV x.init,.str x.on]:=rfl;simp only[go_sem];refine Ad hd (by simp only[go_sem]) ?_;by_cases k1:x.kind=1
  .have q1:(x.kind==1)=true:=by simp[k1]
   cases q5:(x.size==0)
   .simp only[go_sem,f1,Aj,hx,qc,q1,q5,bne,A1];exact⟨_,rfl,⟨rfl,rfl,rfl⟩,2,rfl,by omega⟩
   .simp only[go_sem,f1,Aj,hx,qc,q1,q5,bne,Ay];exact⟨_,rfl,⟨rfl,rfl,rfl⟩,1,rfl,by omega⟩
  have q1:(x.kind==1)=false:=by simp[k1]
  cases q2:(x.kind==2);rotate_left
  .simp only[go_sem,f1,Aj,hx,qc,q1,q2];exact⟨_,rfl,⟨rfl,rfl,rfl⟩,1,rfl,by omega⟩
  cases q3:(x.kind==3);rotate_left
  .simp only[go_sem,f1,Aj,hx,qc,q1,q2,q3];exact⟨_,rfl,⟨rfl,rfl,rfl⟩,_,rfl,fun _=>c⟩
  cases q4:(x.kind==4);rotate_left
  .simp only[go_sem,f1,Aj,hx,qc,q1,q2,q3,q4];exact⟨_,rfl,⟨rfl,rfl,rfl⟩,_,rfl,fun _=>c⟩
  cases q5:(x.kind==5);rotate_left
  .simp only[go_sem,f1,Aj,hx,qc,q1,q2,q3,q4,q5];exact⟨_,rfl,⟨rfl,rfl,rfl⟩,_,rfl,fun _=>c⟩
  cases q6:(x.kind==6)
  .simp only[go_sem,f1,Aj,hx,qc,q1,q2,q3,q4,q5,q6];exact⟨_,rfl,⟨rfl,rfl,rfl⟩,_,rfl,fun _=>c⟩
  .simp only[go_sem,f1,Aj,hx,qc,q1,q2,q3,q4,q5,q6];exact⟨_,rfl,⟨rfl,rfl,rfl⟩,_,rfl,fun _=>c⟩
 .rw[Aue c]at hd;simp only[go_sem];refine Ad hd (by simp only[go_sem]) ?_;simp only[go_sem,Int.reduceLT,Int.reduceNeg];refine Ad ht (by simp only[go_sem]) ?_;by_cases c3:0<=Bz (fun d:Tp=>d.nm==s) thrs
  .have f3:(0<=Bz (fun d:Tp=>d.nm==s) thrs)=True:=eq_true c3;simp only[go_sem,f3,ge_iff_le];exact⟨_,rfl,⟨rfl,rfl,rfl⟩,7,rfl,by omega⟩
  .have f3:(0<=Bz (fun d:Tp=>d.nm==s) thrs)=False:=eq_false c3;simp only[go_sem,f3,ge_iff_le];exact⟨_,rfl,⟨rfl,rfl,rfl⟩,0,rfl,by omega⟩
def Ni{p:Gp}(hp:LnG p)(th:Int)(s:List UInt8)(a b:Int):∃ v,Fn TT PT 164 [.agg p.row,iV th,.str s,iV a,iV b] v/\∃ e:Int,v=iV e/\(a=5->b=5->e=0->0<=Bz (fun d:Dp=>d.nm==s) p.decls):=by
 obtain⟨_,hk,k,rfl,h5⟩:=A8m hp th s;rw[Ul]at hk ⊢;refine Np T164 rfl ?_;simp only[go_sem];refine Ad hk (by simp only[go_sem]) ?_;by_cases k0:k=0
 .have q0:(k==0)=true:=by simp[k0]
  simp only[go_sem,q0];exact⟨_,rfl,⟨rfl,rfl,rfl⟩,5,rfl,by omega⟩
 have q0:(k==0)=false:=by simp[k0]
 by_cases ka:k=a
 .have qa:(k==a)=true:=by simp[ka]
  simp only[go_sem,q0,qa,bne,Ay];exact⟨_,rfl,⟨rfl,rfl,rfl⟩,0,rfl,fun e _ _=>h5 (by omega)⟩
 have qa:(k==a)=false:=by simp[ka]
 by_cases kb:k=b
 .have qb:(k==b)=true:=by simp[kb]
  simp only[go_sem,q0,qa,qb,bne,Ay,A1];exact⟨_,rfl,⟨rfl,rfl,rfl⟩,0,rfl,fun _ e _=>h5 (by omega)⟩
 have qb:(k==b)=false:=by simp[kb]
 simp only[go_sem,q0,qa,qb,bne,Ay,A1];exact⟨_,rfl,⟨rfl,rfl,rfl⟩,6,rfl,by omega⟩
def Aqk:∀ (N:Nat) (x:Xp),C7 x.row<=N->N<=1000000000->∃ v,Fn TT PT 191 [.agg x.row] v/\∃ n d:Int,v=.tup [iV n,iV d]
 | 0,x,h,_=>by rw[Gr]at h;omega
 | N+1,x,h,hN=>by
  have h1:=Gr x;have h2:=K2 (f:=Xp.row) (fun x=>by rw[Gr];omega) x.l;have qe:(x.l.map Xp.row).length=x.l.length:=Ap ..;have hx:=Du x;rw[Bf]at hx ⊢;refine Np T191 rfl ?_;simp only[go_sem];refine Bn (α:=Nat × Int × Int) (fun a=>x.l.length - a.1) (fun a=>[(1,.ptr 0 0 0),(4,iV a.2.1),(5,iV a.2.2),(6,iV (a.1:Int))]) (fun _=>[.row [iV x.op,iV x.n,.str x.nm,SL x.z x.t (x.l.map Xp.row)] 102 0 0]) (fun a=>a.1<=x.l.length) ?_ (0,1,0) (Au _);rintro⟨i,n,d⟩ hi ih;simp only at hi ih;refine Bl Bb7 ?_;rcases Be i x.l.length with h' | h'
  .obtain⟨y,hy,-,hm⟩:=By h';have hb:=I7 (f:=Xp.row) hm;obtain⟨_,hf,n',d',rfl⟩:=Aqk N y (by omega) (by omega);have qO:=Du y;have qB:=Bf y;rw[qB]at hf qO;simp only[go_sem,qe,A0 h',Aj,hy,qB];refine Ad hf (by simp only[go_sem]) ?_;simp only[go_sem,A2 (show i<9223372036854775807 by omega)];exact As (ih (i+1,IntKind.i64.wrap (n+n'),max d d') (by simp;omega) h') rfl
  .simp only[go_sem,qe,Bq h'];exact⟨_,rfl,⟨rfl,rfl,rfl⟩,_,_,rfl⟩
def Aql{p:Gp}(hp:LnG p)(th:Int):∀ (N:Nat) (x:Xp),C7 x.row<=N->N<=1000000000->∃ v,Fn TT PT 192 [.agg p.row,iV th,.agg x.row] v/\∃ r:Int,v=iV r
 | 0,x,h,_=>by rw[Gr]at h;omega
 | N+1,x,h,hN=>by
  have h1:=Gr x;have h2:=K2 (f:=Xp.row) (fun x=>by rw[Gr];omega) x.l;have qe:(x.l.map Xp.row).length=x.l.length:=Ap ..;have hx:=Du x;have ih:∀ y∈x.l,∃ v,Fn TT PT 192 [.agg p.row,iV th,.agg y.row] v/\∃ r:Int,v=iV r:=fun y hy=>Aql hp th N y (by have:=I7 (f:=Xp.row) hy;omega) (by omega)
  obtain⟨_,w1,r1,rfl,-⟩:=Ni hp th x.nm 8 1;obtain⟨_,w2,r2,rfl,-⟩:=Ni hp th x.nm 2 2;rw[Bf]at hx ⊢;have qs:=Aem p;rw[Ul]at ih w1 w2 qs ⊢;refine Np T192 rfl ?_;refine F0 (fun e σ=>e=[(1,iV th),(3,.ptr 0 0 0),(5,.ptr 1 0 0)]/\σ=[.row [SL p.dz p.dt (p.decls.map Dp.row),SL p.tz p.tt (p.thrs.map Tp.row)] 29 0 0,.row [iV x.op,iV x.n,.str x.nm,SL x.z x.t (x.l.map Xp.row)] 102 0 0]) (fun k' hk=>?_) ?_
  .simp only[go_sem];exact hk _ _ ⟨rfl,rfl⟩
  rintro e σ ⟨rfl,rfl⟩;refine F0 (fun e σ=>e=[(1,iV th),(3,.ptr 0 0 0),(5,.ptr 1 0 0),(7,iV 0)]/\σ=[.row [SL p.dz p.dt (p.decls.map Dp.row),SL p.tz p.tt (p.thrs.map Tp.row)] 29 0 0,.row [iV x.op,iV x.n,.str x.nm,SL x.z x.t (x.l.map Xp.row)] 102 0 0]) (fun k' hk=>?_) ?_
  .simp only[go_sem];exact hk _ _ ⟨rfl,rfl⟩
  rintro e σ ⟨rfl,rfl⟩;refine F0 (fun e σ=>∃ (r:Int) (X:V),(e=[(1,iV th),(3,.ptr 0 0 0),(5,.ptr 1 0 0),(7,iV r)]\/e=[(1,iV th),(3,.ptr 0 0 0),(5,.ptr 1 0 0),(7,iV r),(10,X)])/\σ=[.row [SL p.dz p.dt (p.decls.map Dp.row),SL p.tz p.tt (p.thrs.map Tp.row)] 29 0 0,.row [iV x.op,iV x.n,.str x.nm,SL x.z x.t (x.l.map Xp.row)] 102 0 0]) (fun k' hk=>?_) ?_
  .by_cases o2:x.op=2
   .have q2:(x.op==2)=true:=by simp[o2]
    simp only[go_sem,q2];refine Ad w1 (by simp only[go_sem]) ?_;simp only[go_sem];exact hk _ _ ⟨_,_,.inr rfl,rfl⟩
   have q2:(x.op==2)=false:=by simp[o2]
   by_cases o3:x.op=3
   .have q3:(x.op==3)=true:=by simp[o3]
    simp only[go_sem,q2,q3];refine Ad w2 (by simp only[go_sem]) ?_;simp only[go_sem];exact hk _ _ ⟨_,.und,.inl rfl,rfl⟩
   have q3:(x.op==3)=false:=by simp[o3]
   simp only[go_sem,q2,q3];exact hk _ _ ⟨_,.und,.inl rfl,rfl⟩
  rintro e σ ⟨r,X,he,rfl⟩;rcases he with rfl | rfl
  all_goals
   simp only[go_sem];refine Bn (α:=Nat × Int) (fun a=>x.l.length - a.1) (fun a=>[(1,iV th),(3,.ptr 0 0 0),(5,.ptr 1 0 0),(7,iV a.2),(8,iV (a.1:Int))]) (fun _=>[.row [SL p.dz p.dt (p.decls.map Dp.row),SL p.tz p.tt (p.thrs.map Tp.row)] 29 0 0,.row [iV x.op,iV x.n,.str x.nm,SL x.z x.t (x.l.map Xp.row)] 102 0 0]) (fun a=>a.1<=x.l.length) ?_ (0,r) (Au _);rintro⟨i,r⟩ hi jh;simp only at hi jh;refine Bl Bb8 ?_;rcases Be i x.l.length with h' | h'
   .cases r0:(r==0)
    .simp only[go_sem,qe,A0 h',r0];exact⟨_,rfl,⟨rfl,rfl,rfl⟩,_,rfl⟩
    .obtain⟨y,hy,-,hm⟩:=By h';obtain⟨_,hf,r',rfl⟩:=ih y hm;have qO:=Du y;have qB:=Bf y;rw[qB]at hf qO;simp only[go_sem,qe,A0 h',r0];refine Ag (by kernel_rfl) ?_;simp only[go_sem,qe,Aj,hy,qB];refine Bk hf (by simp only[go_sem]) ?_;simp only[go_sem,A2 (show i<9223372036854775807 by omega)];exact As (jh (i+1,r') (by simp;omega) h') rfl
   .simp only[go_sem,qe,Bq h'];exact⟨_,rfl,⟨rfl,rfl,rfl⟩,_,rfl⟩
def Aqm{p:Gp}(hp:LnG p)(th:Int)(x:Xp)(h:C7 x.row<=1000000000):∃ v,Fn TT PT 165 [.agg p.row,iV th,.agg x.row] v/\∃ r:Int,v=iV r:=by
 have hs:=Ady _ x h (Ai _);obtain⟨_,hn,n,d,rfl⟩:=Aqk _ x h (Ai _);obtain⟨_,hm,r,rfl⟩:=Aql hp th _ x h (Ai _);have hx:=Du x;have qs:=Aem p;rw[Bf]at hx hs hn hm ⊢;rw[Ul]at hm qs ⊢;refine Np T165 rfl ?_;cases b:G6 x
 .rw[b]at hs;simp only[go_sem];refine Ad hs (by simp only[go_sem]) ?_;simp only[go_sem,A1];exact⟨_,rfl,⟨rfl,rfl,rfl⟩,_,rfl⟩
 rw[b]at hs;simp only[go_sem];refine Ad hs (by simp only[go_sem]) ?_;simp only[go_sem,Ay];refine Ad hn (by simp only[go_sem]) ?_;by_cases c1:24<n
 .have f1:((24:Int)<n)=True:=eq_true c1;simp only[go_sem,gt_iff_lt,f1];exact⟨_,rfl,⟨rfl,rfl,rfl⟩,_,rfl⟩
 have f1:((24:Int)<n)=False:=eq_false c1;by_cases c2:6<d
 .have f2:((6:Int)<d)=True:=eq_true c2;simp only[go_sem,gt_iff_lt,f1,f2];exact⟨_,rfl,⟨rfl,rfl,rfl⟩,_,rfl⟩
 have f2:((6:Int)<d)=False:=eq_false c2;simp only[go_sem,gt_iff_lt,f1,f2];refine Ad hm (by simp only[go_sem]) ?_;simp only[go_sem];exact⟨_,rfl,⟨rfl,rfl,rfl⟩,_,rfl⟩
def Gz(b:Bool):∃ v,Fn TT PT 166 [.bool b] v/\∃ r:Int,v=iV r:=by
 refine Np T166 rfl ?_;cases b
 .simp only[go_sem];exact⟨_,rfl,⟨rfl,rfl,rfl⟩,_,rfl⟩
 .simp only[go_sem];exact⟨_,rfl,⟨rfl,rfl,rfl⟩,_,rfl⟩
def Gs(a b:Int):∃ v,Fn TT PT 163 [iV a,iV b] v/\∃ r:Int,v=iV r:=by
 refine Np T163 rfl ?_;cases h:(a==0)
 .simp only[go_sem,bne,h,A1];exact⟨_,rfl,⟨rfl,rfl,rfl⟩,_,rfl⟩
 .simp only[go_sem,bne,h,Ay];exact⟨_,rfl,⟨rfl,rfl,rfl⟩,_,rfl⟩
def Ahv:∀ (N:Nat) (z:Bool) (t:Nat) (l:List Sp),C0 (l.map Sp.row)<=N->N<=1000000000->∃ v,Fn TT PT 79 [SL z t (l.map Sp.row)] v/\∃ n:Int,v=iV n
 | N,z,t,l,h,hN=>by
  have h2:=K2 (f:=Sp.row) (fun x=>by rw[Mu];omega) l;have qe:(l.map Sp.row).length=l.length:=Ap ..;refine Np T79 rfl ?_;simp only[go_sem,qe];refine Bn (α:=Nat × Int) (fun a=>l.length - a.1) (fun a=>[(0,SL z t (l.map Sp.row)),(3,iV a.2),(4,iV (a.1:Int))]) (fun _=>[]) (fun a=>a.1<=l.length) ?_ (0,_) (Au _);rintro⟨i,n⟩ hi ih;simp only at hi ih;refine Bl Bhp ?_;rcases Be i l.length with h' | h'
  .obtain⟨y,hy,-,hm⟩:=By h';have hb:=I7 (f:=Sp.row) hm;have jl:=Mu y
   cases N with
   | zero=>omega
   | succ N=>
    obtain⟨_,hf,n1,rfl⟩:=Ahv N y.bz y.bt y.body (by omega) (by omega);obtain⟨_,hg,n2,rfl⟩:=Ahv N y.ez y.et y.els (by omega) (by omega);have qc:=Fg y;simp only[go_sem,qe,A0 h'];refine Ag (by kernel_rfl) ?_;simp only[go_sem,Aj,hy,qc];refine Bk hf (by simp only[go_sem]) ?_;simp only[go_sem,Aj,hy,qc];refine Bk hg (by simp only[go_sem]) ?_;simp only[go_sem,A2 (show i<9223372036854775807 by omega)];exact As (ih (i+1,_) (by simp;omega) h') rfl
  .simp only[go_sem,qe,Bq h'];exact⟨_,rfl,⟨rfl,rfl,rfl⟩,_,rfl⟩
structure WK (σ:St) (w:Nat) (p:Gp) (th:Int) (uA uS uT:V) (A S T:List (List V)):Prop where
 row:σ[w]?=some (.row [SL p.dz p.dt (p.decls.map Dp.row),SL p.tz p.tt (p.thrs.map Tp.row),iV th,uA,uS,uT] 148 0 0)
 a:GS σ 11 104 uA A
 s:GS σ 1 9 uS S
 t:GS σ 1 9 uT T
 ad:∀ j∈uA.refs,j≠w/\j ∉ uS.refs/\j ∉ uT.refs
 sd:∀ j∈uS.refs,j≠w/\j ∉ uT.refs
 td:∀ j∈uT.refs,j≠w
 cl:Cl σ
def Ng(z:Bool)(t:Nat)(l:List (List V)):(SL z t l).refs=[]:=by
 unfold SL
 split<;>rfl
def Ac8(p:Gp)(th:Int)(uA uS uT:V):Ah [SL p.dz p.dt (p.decls.map Dp.row),SL p.tz p.tt (p.thrs.map Tp.row),iV th,uA,uS,uT]=uA.refs++(uS.refs++uT.refs):=by
 simp only[Ah,Ng,V.refs,Cr,B3]
def Rw{σ:St}{w:Nat}{p:Gp}{th:Int}{uA uS uT:V}{A S T:List (List V)}(h:WK σ w p th uA uS uT A S T):w<σ.length:=(Ak.1 h.row).1
def Rx{σ:St}{w:Nat}{p:Gp}{th:Int}{uA uS uT:V}{A S T:List (List V)}(h:WK σ w p th uA uS uT A S T):fp σ w=w::(uA.refs++(uS.refs++uT.refs)):=by
 rw[Ajj h.row,Ac8]
def Aip{σ:St}{w:Nat}{p:Gp}{th:Int}{uA uS uT:V}{A S T:List (List V)}(h:WK σ w p th uA uS uT A S T)(l:St)(hc:Cl (σ++l)):WK (σ++l) w p th uA uS uT A S T:=by
 have k:∀ i,i<σ.length->(σ++l)[i]?=σ[i]?:=fun i hi=>B6 hi
 exact⟨by rw[k w (Rw h)];exact h.row,Hm h.a fun i hi=>k i (Cy h.a i hi),Hm h.s fun i hi=>k i (Cy h.s i hi),Hm h.t fun i hi=>k i (Cy h.t i hi),h.ad,h.sd,h.td,hc⟩
def Zp{σ σ2:St}{w:Nat}{p:Gp}{th th':Int}{uA uS uT vA vS vT:V}{A S T A' S' T':List (List V)}(h:WK σ w p th uA uS uT A S T)(hl:σ.length<=σ2.length)(hB:∀ j,j<σ.length->j ∉ uA.refs->j ∉ uS.refs->j ∉ uT.refs->σ2[j]?=σ[j]?)
  (ga:GS σ2 11 104 vA A') (gs:GS σ2 1 9 vS S') (gt:GS σ2 1 9 vT T') (rA:∀ j∈vA.refs,j∈uA.refs\/σ.length<=j) (rS:∀ j∈vS.refs,j∈uS.refs\/σ.length<=j) (rT:∀ j∈vT.refs,j∈uT.refs\/σ.length<=j)
  (d1:∀ j∈vA.refs,j ∉ vS.refs/\j ∉ vT.refs) (d2:∀ j∈vS.refs,j ∉ vT.refs) (hc:Cl σ2) :
  WK (σ2.set w (.row [SL p.dz p.dt (p.decls.map Dp.row),SL p.tz p.tt (p.thrs.map Tp.row),iV th',vA,vS,vT] 148 0 0)) w p th' vA vS vT A' S' T'/\FW w σ (σ2.set w (.row [SL p.dz p.dt (p.decls.map Dp.row),SL p.tz p.tt (p.thrs.map Tp.row),iV th',vA,vS,vT] 148 0 0)):=by
 have hw:=Rw h
 have nA:∀ j∈vA.refs,j≠w:=fun j hj e=>by
  rcases rA j hj with h2 | h2
  .exact(h.ad j h2).1 e
  .omega
 have nS:∀ j∈vS.refs,j≠w:=fun j hj e=>by
  rcases rS j hj with h2 | h2
  .exact(h.sd j h2).1 e
  .omega
 have nT:∀ j∈vT.refs,j≠w:=fun j hj e=>by
  rcases rT j hj with h2 | h2
  .exact h.td j h2 e
  .omega
 have ks:∀ (X:Ob) (j:Nat),j≠w->(σ2.set w X)[j]?=σ2[j]?:=fun X j hj=>Bh (Ne.symm hj)
 refine⟨⟨B5 (by omega),Hm ga fun i hi=>ks _ i (nA i hi),Hm gs fun i hi=>ks _ i (nS i hi),Hm gt fun i hi=>ks _ i (nT i hi),fun j hj=>⟨nA j hj,d1 j hj⟩,fun j hj=>⟨nS j hj,d2 j hj⟩,nT,Gc hc ?_⟩,?_⟩
 .intro i hi;simp only[Ob.refs,Ac8,B8]at hi;rcases hi with hi | hi | hi
  .exact Cy ga i hi
  .exact Cy gs i hi
  .exact Cy gt i hi
 .have hf:=Rx h;refine Ajk (τ:=σ2) ⟨hl,fun j hj hn=>?_,fun j hj=>?_⟩ hw fun j hj=>?_
  .rw[hf]at hn;simp only[Bj,B8,not_or]at hn;exact hB j hj hn.2.1 hn.2.2.1 hn.2.2.2
  .rw[hf];have e2:σ2[w]?=σ[w]?:=hB w hw (fun e=>(h.ad w e).1 rfl) (fun e=>(h.sd w e).1 rfl) (fun e=>h.td w e rfl);unfold fp at hj;rw[e2,h.row]at hj;simp only[Ob.refs,Ac8]at hj;exact .inl hj
  .rw[Ac8]at hj;rw[hf];simp only[Bj,B8]at hj ⊢;rcases hj with hj | hj | hj
   .rcases rA j hj with h2 | h2
    .exact .inl (.inr (.inl h2))
    .exact .inr h2
   .rcases rS j hj with h2 | h2
    .exact .inl (.inr (.inr (.inl h2)))
    .exact .inr h2
   .rcases rT j hj with h2 | h2
    .exact .inl (.inr (.inr (.inr h2)))
    .exact .inr h2
def Avq{σ σ2:St}{w:Nat}{p:Gp}{th:Int}{uA uS uT:V}{A S T:List (List V)}(h:WK σ w p th uA uS uT A S T)(hB:∀ j,j<σ.length->j ∉ uA.refs->j ∉ uS.refs->j ∉ uT.refs->σ2[j]?=σ[j]?):σ2[w]?=some (.row [SL p.dz p.dt (p.decls.map Dp.row),SL p.tz p.tt (p.thrs.map Tp.row),iV th,uA,uS,uT] 148 0 0):=by
 rw[hB w (Rw h) (fun e=>(h.ad w e).1 rfl) (fun e=>(h.sd w e).1 rfl) (fun e=>h.td w e rfl)];exact h.row
def Bj0{σ:St}{w:Nat}{p:Gp}{th:Int}{uA uS uT:V}{A S T:List (List V)}(h:WK σ w p th uA uS uT A S T)(nm:List UInt8)(hb:S.length<=1000000000):∃ u' σ2,D6 16 (1,9) uS (.lst 1 [[.str nm]]) σ=some (u',σ2)/\u'.cellB=true/\σ2[w]?=some (.row [SL p.dz p.dt (p.decls.map Dp.row),SL p.tz p.tt (p.thrs.map Tp.row),iV th,uA,uS,uT] 148 0 0) /\
  WK (σ2.set w (.row [SL p.dz p.dt (p.decls.map Dp.row),SL p.tz p.tt (p.thrs.map Tp.row),iV th,uA,u',uT] 148 0 0)) w p th uA u' uT A (S++[[.str nm]]) T/\FW w σ (σ2.set w (.row [SL p.dz p.dt (p.decls.map Dp.row),SL p.tz p.tt (p.thrs.map Tp.row),iV th,uA,u',uT] 148 0 0)):=by
 obtain⟨u',σ2,e1,g,hl,hk,hr,hc⟩:=V5 (bytes:=16) (row:=[.str nm]) h.s (by omega) rfl rfl (by omega);have hB:∀ j,j<σ.length->j ∉ uA.refs->j ∉ uS.refs->j ∉ uT.refs->σ2[j]?=σ[j]?:=fun j hj _ h2 _=>hk j hj h2
 have nn:∀ j,j<σ.length->j ∉ uS.refs->j ∉ u'.refs:=fun j hj h1 h2=>by
  rcases hr j h2 with h3 | h3
  .exact h1 h3
  .omega
 exact⟨u',σ2,e1,I9 g,Avq h hB,Zp h hl hB (Hm h.a fun i hi=>hk i (Cy h.a i hi) (h.ad i hi).2.1) g (Hm h.t fun i hi=>hk i (Cy h.t i hi) fun e=>(h.sd i e).2 hi) (fun j hj=>.inl hj) hr (fun j hj=>.inl hj)
  (fun j hj=>⟨nn j (Cy h.a j hj) (h.ad j hj).2.1,(h.ad j hj).2.2⟩) (fun j hj ht=>nn j (Cy h.t j ht) (fun e=>(h.sd j e).2 ht) hj) (hc h.cl)⟩
def W8{σ:St}{w:Nat}{p:Gp}{th:Int}{uA uS uT:V}{A S T:List (List V)}(h:WK σ w p th uA uS uT A S T)(nm:List UInt8)(hb:T.length<=1000000000):∃ u' σ2,D6 16 (1,9) uT (.lst 1 [[.str nm]]) σ=some (u',σ2)/\u'.cellB=true/\σ2[w]?=some (.row [SL p.dz p.dt (p.decls.map Dp.row),SL p.tz p.tt (p.thrs.map Tp.row),iV th,uA,uS,uT] 148 0 0) /\
  WK (σ2.set w (.row [SL p.dz p.dt (p.decls.map Dp.row),SL p.tz p.tt (p.thrs.map Tp.row),iV th,uA,uS,u'] 148 0 0)) w p th uA uS u' A S (T++[[.str nm]])/\FW w σ (σ2.set w (.row [SL p.dz p.dt (p.decls.map Dp.row),SL p.tz p.tt (p.thrs.map Tp.row),iV th,uA,uS,u'] 148 0 0)):=by
 obtain⟨u',σ2,e1,g,hl,hk,hr,hc⟩:=V5 (bytes:=16) (row:=[.str nm]) h.t (by omega) rfl rfl (by omega);have hB:∀ j,j<σ.length->j ∉ uA.refs->j ∉ uS.refs->j ∉ uT.refs->σ2[j]?=σ[j]?:=fun j hj _ _ h2=>hk j hj h2
 have nn:∀ j,j<σ.length->j ∉ uT.refs->j ∉ u'.refs:=fun j hj h1 h2=>by
  rcases hr j h2 with h3 | h3
  .exact h1 h3
  .omega
 exact⟨u',σ2,e1,I9 g,Avq h hB,Zp h hl hB (Hm h.a fun i hi=>hk i (Cy h.a i hi) (h.ad i hi).2.2) (Hm h.s fun i hi=>hk i (Cy h.s i hi) (h.sd i hi).2) g (fun j hj=>.inl hj) (fun j hj=>.inl hj) hr
  (fun j hj=>⟨(h.ad j hj).2.1,nn j (Cy h.a j hj) (h.ad j hj).2.2⟩) (fun j hj=>nn j (Cy h.s j hj) (h.sd j hj).2) (hc h.cl)⟩
def Auf{R:V->Prop}{f p:Nat}{res:List AR}{body:AC}{vs:List V}{σ:St}(hT:TT f=some ⟨p,res,true,body,none⟩)(hl:vs.length=p)(h:W TT PT [.c body] (Dd 0 vs) σ (Hd fun e' σ1=>∃ v,Cd e' σ1 res=some v/\(Cm v=true/\v.refs=[])/\(∃ l,σ1=σ++l)/\R v)):∃ v,Th TT PT f vs σ v σ/\R v:=by
 obtain⟨e',_,hE,v,hr,⟨h1,h2⟩,⟨l,rfl⟩,h3⟩:=h;exact⟨v,A17 hT rfl rfl hl ⟨e',_,hE,hr,⟨h1,by rw[h2];rfl,fun i ob hi ho=>.inl (by rw[B6 hi]at ho;exact ho)⟩,by rw[Sv]⟩,h3⟩
def Aiq{R:V->St->Prop}{f p:Nat}{res:List AR}{body:AC}{vs:List V}{σ:St}(hT:TT f=some ⟨p,res,true,body,none⟩)(hl:vs.length=p)(h:W TT PT [.c body] (Dd 0 vs) σ (Hd fun e' σ1=>∃ v,Cd e' σ1 res=some v/\(Cm v=true/\v.refs=[])/\(σ.length<=σ1.length/\Cl σ1)/\R v σ1)):∃ v σ',Th TT PT f vs σ v σ'/\R v σ':=by
 obtain⟨e',σ1,hE,v,hr,⟨h1,h2⟩,⟨h3,h4⟩,h5⟩:=h;exact⟨v,σ1,Ai3 hT hl ⟨e',σ1,hE,hr,rfl⟩ h2 h1 h3 h4,h5⟩
def Avr{m j g off len i:Nat}{w:Bool}{k:IntKind}(h:i<len):Ly m (.sl j g off len m w) (.int k (i:Int))=some (.ptr j g (off+i*m)):=by
 simp only[Ly];rw[if_pos ⟨by omega,by omega,trivial⟩,Md]
set_option maxHeartbeats 1000000 in
def Pj{σ:St}{w:Nat}{p:Gp}{th:Int}{uA uS uT:V}{X:List Sp}{S T:List (List V)}(h:WK σ w p th uA uS uT (X.map Sp.row) S T)(hX:X.length<=1000000000)(a b:Int)(nm:List UInt8):∃ v,Th TT PT 162 [.ptr w 0 0,iV a,iV b,.str nm] σ v σ/\∃ z,v=.bool z:=by
 have qe:=Zo h.a;have n1:(X.map Sp.row).length=X.length:=Ap ..;rw[n1]at qe;refine Auf T162 rfl ?_;simp only[go_sem];refine Bn (α:=Nat × St) (fun a=>X.length - a.1) (fun x=>[(0,.ptr w 0 0),(1,iV a),(2,iV b),(3,.str nm),(9,iV (x.1:Int))]) (fun x=>x.2) (fun x=>x.1<=X.length/\∃ l,x.2=σ++l) ?_ (0,σ) ⟨Au _,[],by simp⟩;rintro⟨i,_⟩ ⟨hi,l,rfl⟩ ih;simp only at hi ih;have hr:=Bx (l:=l) h.row;refine Bl Bb3 ?_;rcases Be i X.length with h' | h'
 .obtain⟨x,hx,-,-⟩:=By h';obtain⟨j,g,cs,rfl,ho,hb,qc⟩:=Bc3 (i:=i) (row:=x.row) h.a (by rw[Aj,hx];rfl);rw[n1]at hr qe;have hj:=Bx (l:=l) ho
  have qW:Li (σ++l)[j]? g 11 false (i*11)=some (.agg x.row):=by
   rw[hj];simp only[Li];rw[if_pos ⟨trivial,by omega⟩,qc];rfl
  have qA:=Gu x;have qp:=Fg x;rw[qp]at qW qA
  cases qa:(x.op==a)<;>cases qb:(x.op==b)<;>cases qn:(nm==[])<;>cases qx:(x.nm==nm)
  all_goals
   simp only[go_sem,hr,qe,A0 h',Avr h',qW,qa,qb,qn,qx,A2 (show i<9223372036854775807 by omega)]
   first
    | exact⟨_,rfl,⟨rfl,rfl⟩,⟨_,rfl⟩,_,rfl⟩
    | exact As (ih (i+1,_) (by simp;omega) ⟨h',_,rfl⟩) rfl
 .simp only[go_sem,hr,qe,Bq h'];exact⟨_,rfl,⟨rfl,rfl⟩,⟨_,rfl⟩,_,rfl⟩
def rdP{s:St}{ob k off n x:Nat}{cs vs:List V}{e:Env}(q:s[ob]?=some (.row cs k 0 0))(he:e.get x=.ptr ob 0 off)(hl:off+n<=cs.length)(hv:(cs.drop off).take n=vs):Ae (.load n false (.t x)) e s=some (.agg vs,s):=by
 simp only[Ae,Ab,he,Ib,q];rw[if_pos ⟨trivial,hl⟩,hv];rfl
def Oj{v:V}(h:v.cellB=true):v.cells=[v]/\[v].all V.cellB=true:=⟨by cases v<;>simp[V.cellB]at h<;>rfl,by simp only[Aw,Bi,h];rfl⟩
def Akk{σ:St}{u:V}{L:List (List UInt8)}(h:GS σ 1 9 u (L.map fun x=>[V.str x])):∃ z,OV σ u (SL z 0 (L.map fun x=>[V.str x])):=by
 obtain⟨z,hz⟩:=Akj h (by omega);exact⟨z,Acv hz (I9 h)⟩
def Aww(w:Nat)(p:Gp)(th:Int)(uA:V)(A:List (List V))(S T:List (List UInt8))(σ:St)(v:V)(σ':St):Prop:=∃ e:Int,v=iV e/\∃ (vS vT:V) (S' T':List (List UInt8)),WK σ' w p th uA vS vT A (S'.map fun x=>[V.str x]) (T'.map fun x=>[V.str x])/\FW w σ σ'/\S'.length<=S.length+1/\T'.length<=T.length+1
set_option maxHeartbeats 8000000 in
def Bc6{σ:St}{w:Nat}{p:Gp}{th:Int}{uA uS uT:V}{X:List Sp}{S T:List (List UInt8)}(h:WK σ w p th uA uS uT (X.map Sp.row) (S.map fun x=>[V.str x]) (T.map fun x=>[V.str x]))(hp:LnG p)(hX:X.length<=1000000)(hS:S.length<=1000000)(hT:T.length<=1000000)(x:Sp)(hx:C7 x.row<=1000000000):
  ∃ v σ',Th TT PT 135 [.ptr w 0 0,.agg x.row] σ v σ'/\Aww w p th uA (X.map Sp.row) S T σ v σ':=by
 obtain⟨op,line,nm,arg,iz,it,idx,ex,bz,bt,body,ez,et,els⟩:=x;have qU:=hx;rw[Mu]at qU;simp only at qU;have qA:=Gu ⟨op,line,nm,arg,iz,it,idx,ex,bz,bt,body,ez,et,els⟩;rw[Fg]at qA ⊢;simp only at qA ⊢;obtain⟨_,jb,jg,rfl,-⟩:=Ni hp th nm 8 1;obtain⟨_,ja,jf,rfl,-⟩:=Ni hp th nm 2 2;obtain⟨_,qQ,qX,rfl,-⟩:=Ni hp th nm 3 3;obtain⟨_,qC,qJ,rfl,-⟩:=Ni hp th nm 4 4;obtain⟨_,qq,qo,rfl,qL⟩:=Ni hp th nm 5 5;obtain⟨_,qu,qt,rfl,-⟩:=Ni hp th nm 7 7;obtain⟨_,qR,qY,rfl,-⟩:=Ni hp th nm 6 6;obtain⟨_,jc,ji,rfl,-⟩:=Ni hp th nm 8 8;obtain⟨_,qS,jj,rfl,-⟩:=Ni hp th arg 6 6;obtain⟨_,q0,e0,rfl⟩:=Aqm hp th ex (by omega);have qZ:=Adz p.tz p.tt p.thrs nm (by have:=hp.t;omega);have qr:=Wl p.dz p.dt p.decls nm (by have:=hp.d;omega);rw[Ul]at jb ja qQ qC qq qu qR jc qS q0;rw[Bf]at q0;have qs:=Aem p;rw[Ul]at qs;have hw:=Rw h;refine Aiq T135 rfl ?_;refine F0 (fun e s=>e=[(0,.ptr w 0 0),(3,.ptr σ.length 0 0)]/\s=σ++[.row [iV op,iV line,.str nm,.str arg,SL iz it (idx.map Xp.row),iV ex.op,iV ex.n,.str ex.nm,SL ex.z ex.t (ex.l.map Xp.row),SL bz bt (body.map Sp.row),SL ez et (els.map Sp.row)] 104 0 0]) (fun k' hk=>?_) ?_
 .simp only[go_sem];exact hk _ _ ⟨rfl,rfl⟩
 rintro e s ⟨rfl,rfl⟩;refine F0 (fun e s=>∃ n m:Nat,e=[(0,.ptr w 0 0),(3,.ptr n 0 0),(5,.ptr m 0 0),(6,iV th)]/\(WK s w p th uA uS uT (X.map Sp.row) (S.map fun x=>[V.str x]) (T.map fun x=>[V.str x])/\FW w σ s)/\(σ.length<=n/\σ.length<=m)/\s[n]?=some (.row [iV op,iV line,.str nm,.str arg,SL iz it (idx.map Xp.row),iV ex.op,iV ex.n,.str ex.nm,SL ex.z ex.t (ex.l.map Xp.row),SL bz bt (body.map Sp.row),SL ez et (els.map Sp.row)] 104 0 0)/\s[m]?=some (.row [SL p.dz p.dt (p.decls.map Dp.row),SL p.tz p.tt (p.thrs.map Tp.row)] 29 0 0)) (fun k' hk=>?_) ?_
 .have qD:=h.row;have hr:=Bx (l:=[.row [iV op,iV line,.str nm,.str arg,SL iz it (idx.map Xp.row),iV ex.op,iV ex.n,.str ex.nm,SL ex.z ex.t (ex.l.map Xp.row),SL bz bt (body.map Sp.row),SL ez et (els.map Sp.row)] 104 0 0]) h.row;have jd:Cl (σ++[.row [iV op,iV line,.str nm,.str arg,SL iz it (idx.map Xp.row),iV ex.op,iV ex.n,.str ex.nm,SL ex.z ex.t (ex.l.map Xp.row),SL bz bt (body.map Sp.row),SL ez et (els.map Sp.row)] 104 0 0]):=Iu h.cl qA;have qM:Cl (σ++[.row [iV op,iV line,.str nm,.str arg,SL iz it (idx.map Xp.row),iV ex.op,iV ex.n,.str ex.nm,SL ex.z ex.t (ex.l.map Xp.row),SL bz bt (body.map Sp.row),SL ez et (els.map Sp.row)] 104 0 0]++[.row [SL p.dz p.dt (p.decls.map Dp.row),SL p.tz p.tt (p.thrs.map Tp.row)] 29 0 0]):=Iu jd qs;rw[Da]at qM;refine Ag (by kernel_rfl) ?_;simp only[go_sem,hr];refine Ba (h2:=⟨.inr ⟨rd1 hr rfl rfl,rd1 (Bx qD) rfl rfl⟩,.inr ⟨rdP hr rfl (Nat.le_of_ble_eq_true rfl) rfl,rdP (Bx qD) rfl (Nat.le_of_ble_eq_true rfl) rfl⟩,trivial⟩) ?_;simp only[go_sem];refine Ba (h2:=⟨.inr ⟨rd1 (Bx qD) rfl rfl,rd1 (Bx qD) rfl rfl⟩,.inl rfl,trivial⟩) ?_;simp only[go_sem];refine hk _ _ ⟨σ.length,σ.length+1,by first | rfl | simp,?_,?_,?_,?_⟩
  .first | exact⟨Aip h _ qM,Ac4 _ hw⟩ | (rw[Da];exact⟨Aip h _ qM,Ac4 _ hw⟩)
  .omega
  .simp
  .simp
 rintro e s ⟨n,m,rfl,⟨h1,f1⟩,⟨hn,hm⟩,k3,k5⟩;have hr:=h1.row;refine F0 (fun e s'=>s'=s/\∃ tx,e=[(0,.ptr w 0 0),(3,.ptr n 0 0),(5,.ptr m 0 0),(6,iV th),(7,.bool tx)]) (fun k' hk=>?_) ?_
 .obtain⟨_,i1,z1,rfl⟩:=Pj h1 (by omega) 7 7 [];simp only[go_sem];refine Ck i1 ?_;simp only[go_sem];exact hk _ _ ⟨rfl,_,rfl⟩
 rintro e s' ⟨qz,tx,rfl⟩;obtain rfl:=qz.symm;refine F0 (fun e s'=>s'=s/\∃ ao,e=[(0,.ptr w 0 0),(3,.ptr n 0 0),(5,.ptr m 0 0),(6,iV th),(7,.bool tx),(8,.bool ao)]) (fun k' hk=>?_) ?_
 .obtain⟨_,i1,z1,rfl⟩:=Pj h1 (by omega) 8 8 [];simp only[go_sem];refine Ck i1 ?_;simp only[go_sem];exact hk _ _ ⟨rfl,_,rfl⟩
 rintro e s' ⟨qz,ao,rfl⟩;obtain rfl:=qz.symm;refine F0 (fun e s'=>s'=s/\∃ lp,e=[(0,.ptr w 0 0),(3,.ptr n 0 0),(5,.ptr m 0 0),(6,iV th),(7,.bool tx),(8,.bool ao),(9,.bool lp)]) (fun k' hk=>?_) ?_
 .obtain⟨_,i1,z1,rfl⟩:=Pj h1 (by omega) 3 3 [];simp only[go_sem];refine Ck i1 ?_;simp only[go_sem];exact hk _ _ ⟨rfl,_,rfl⟩
 rintro e s' ⟨qz,lp,rfl⟩;obtain rfl:=qz.symm
 have qi:∀ j,σ.length<=j->j ∉ fp s w:=fun j hj hm=>by
  rw[Rx h1]at hm;have g1:=Rx h;simp only[Bj,B8]at hm;rcases hm with rfl | hm | hm | hm
  .omega
  .have:=Cy h.a j hm;omega
  .have:=Cy h.s j hm;omega
  .have:=Cy h.t j hm;omega
 have qf:∀ r:Int,∃ v,some (iV r)=some v/\(Cm v=true/\v.refs=[])/\(σ.length<=s.length/\Cl s)/\Aww w p th uA (X.map Sp.row) S T σ v s:=fun r=>⟨_,rfl,⟨rfl,rfl⟩,⟨f1.1,h1.cl⟩,r,rfl,_,_,S,T,h1,f1,by omega,by omega⟩
 by_cases o1:op=1
 .subst o1
  cases idx with
  | nil=>
   obtain⟨_,oq,r2,rfl⟩:=Gs jg e0;simp only[go_sem,Int.reduceBEq,k3,k5,hr,B7,C9];refine Ag (by kernel_rfl) ?_;simp only[go_sem,Int.reduceBEq,k3,k5,hr];refine Bk jb (by simp only[go_sem]) ?_;simp only[go_sem,Int.reduceBEq,k3,k5,hr];refine Bk q0 (by simp only[go_sem]) ?_;simp only[go_sem,Int.reduceBEq,k3,k5,hr];refine Bk oq (by simp only[go_sem]) ?_;simp only[go_sem];exact qf _
  | cons a r=>
   have jk:=I7 (f:=Xp.row) (l:=a::r) (x:=a) (by simp);obtain⟨_,q1,e1,rfl⟩:=Aqm hp th a (by omega);rw[Ul,Bf]at q1;have je:((r.length:Int)+1==0)=false:=by simp;omega
   have qN:(((r.length+1:Nat):Int)==0)=false:=by simp;omega
   have qT:=Bf a;obtain⟨_,oq,r2,rfl⟩:=Gs e1 e0;obtain⟨_,qP,r3,rfl⟩:=Gs jf r2;simp only[go_sem,Int.reduceBEq,k3,k5,hr,Bb,Am,Ap,je,qN];refine Ag (by kernel_rfl) ?_;simp only[go_sem,Int.reduceBEq,k3,k5,hr,Bb,Aav,qT];refine Bk ja (by simp only[go_sem]) ?_;simp only[go_sem,Int.reduceBEq,k3,k5,hr,Bb,Aav,qT];refine Bk q1 (by simp only[go_sem]) ?_;simp only[go_sem,Int.reduceBEq,k3,k5,hr];refine Bk q0 (by simp only[go_sem]) ?_;simp only[go_sem,Int.reduceBEq,k3,k5,hr];refine Bk oq (by simp only[go_sem]) ?_;simp only[go_sem,Int.reduceBEq,k3,k5,hr];refine Bk qP (by simp only[go_sem]) ?_;simp only[go_sem];exact qf _
 have o1:(op==1)=false:=by simp[o1]
 by_cases o2:op=2
 .subst o2;simp only[go_sem,Int.reduceBEq,k3,k5,hr];refine Ad q0 (by simp only[go_sem]) ?_;simp only[go_sem];exact qf _
 have o2:(op==2)=false:=by simp[o2]
 by_cases o3:op=3
 .subst o3;simp only[go_sem,Int.reduceBEq,k3,k5,hr];refine Ad q0 (by simp only[go_sem]) ?_;simp only[go_sem];exact qf _
 have o3:(op==3)=false:=by simp[o3]
 by_cases o4:op=4
 .subst o4;cases tx
  .obtain⟨_,i1,z1,rfl⟩:=Pj h1 (by omega) 4 4 nm;obtain⟨_,nq,r1,rfl⟩:=Gz z1;obtain⟨_,oq,r2,rfl⟩:=Gs qX r1;simp only[go_sem,Int.reduceBEq,k3,k5,hr];refine Ad qQ (by simp only[go_sem]) ?_;simp only[go_sem,Int.reduceBEq,k3,k5,hr];refine Ck i1 ?_;simp only[go_sem,Int.reduceBEq,k3,k5,hr];refine Ad nq (by simp only[go_sem]) ?_;simp only[go_sem];refine Ad oq (by simp only[go_sem]) ?_;simp only[go_sem];exact qf _
  .obtain⟨_,nq,r1,rfl⟩:=Gz true;obtain⟨_,oq,r2,rfl⟩:=Gs qX r1;simp only[go_sem,Int.reduceBEq,k3,k5,hr];refine Ad qQ (by simp only[go_sem]) ?_;simp only[go_sem,Int.reduceBEq,k3,k5,hr];refine Ad nq (by simp only[go_sem]) ?_;simp only[go_sem];refine Ad oq (by simp only[go_sem]) ?_;simp only[go_sem];exact qf _
 have o4:(op==4)=false:=by simp[o4]
 by_cases o5:op=5
 .subst o5;cases tx
  .obtain⟨_,i1,z1,rfl⟩:=Pj h1 (by omega) 5 6 nm;obtain⟨_,nq,r1,rfl⟩:=Gz z1;obtain⟨_,oq,r2,rfl⟩:=Gs qJ r1;simp only[go_sem,Int.reduceBEq,k3,k5,hr];refine Ad qC (by simp only[go_sem]) ?_;simp only[go_sem,Int.reduceBEq,k3,k5,hr];refine Ck i1 ?_;simp only[go_sem,Int.reduceBEq,k3,k5,hr];refine Ad nq (by simp only[go_sem]) ?_;simp only[go_sem];refine Ad oq (by simp only[go_sem]) ?_;simp only[go_sem];exact qf _
  .obtain⟨_,nq,r1,rfl⟩:=Gz true;obtain⟨_,oq,r2,rfl⟩:=Gs qJ r1;simp only[go_sem,Int.reduceBEq,k3,k5,hr];refine Ad qC (by simp only[go_sem]) ?_;simp only[go_sem,Int.reduceBEq,k3,k5,hr];refine Ad nq (by simp only[go_sem]) ?_;simp only[go_sem];refine Ad oq (by simp only[go_sem]) ?_;simp only[go_sem];exact qf _
 have o5:(op==5)=false:=by simp[o5]
 by_cases o6:op=6
 .subst o6;cases tx
  .obtain⟨_,i1,z1,rfl⟩:=Pj h1 (by omega) 5 6 nm;obtain⟨_,nq,r1,rfl⟩:=Gz z1;obtain⟨_,oq,r2,rfl⟩:=Gs qJ r1;simp only[go_sem,Int.reduceBEq,k3,k5,hr];refine Ad qC (by simp only[go_sem]) ?_;simp only[go_sem,Int.reduceBEq,k3,k5,hr];refine Ck i1 ?_;simp only[go_sem,Int.reduceBEq,k3,k5,hr];refine Ad nq (by simp only[go_sem]) ?_;simp only[go_sem];refine Ad oq (by simp only[go_sem]) ?_;simp only[go_sem];exact qf _
  .obtain⟨_,nq,r1,rfl⟩:=Gz true;obtain⟨_,oq,r2,rfl⟩:=Gs qJ r1;simp only[go_sem,Int.reduceBEq,k3,k5,hr];refine Ad qC (by simp only[go_sem]) ?_;simp only[go_sem,Int.reduceBEq,k3,k5,hr];refine Ad nq (by simp only[go_sem]) ?_;simp only[go_sem];refine Ad oq (by simp only[go_sem]) ?_;simp only[go_sem];exact qf _
 have o6:(op==6)=false:=by simp[o6]
 by_cases o7:op=7
 .subst o7;obtain⟨_,nq,r1,rfl⟩:=Gz tx;simp only[go_sem,Int.reduceBEq,k3,k5,hr];refine Ad nq (by simp only[go_sem]) ?_;simp only[go_sem];exact qf _
 have o7:(op==7)=false:=by simp[o7]
 by_cases o8:op=8
 .subst o8;cases tx
  .obtain⟨_,nq,r1,rfl⟩:=Gz ao;simp only[go_sem,Int.reduceBEq,k3,k5,hr];refine Ad nq (by simp only[go_sem]) ?_;simp only[go_sem];exact qf _
  .obtain⟨_,nq,r1,rfl⟩:=Gz true;simp only[go_sem,Int.reduceBEq,k3,k5,hr];refine Ad nq (by simp only[go_sem]) ?_;simp only[go_sem];exact qf _
 have o8:(op==8)=false:=by simp[o8]
 by_cases o9:op=9
 .subst o9;by_cases z5:qo=0;rotate_left
  .have y5:(qo==0)=false:=by simp[z5]
   simp only[go_sem,Int.reduceBEq,k3,k5,hr];refine Ad qq (by simp only[go_sem]) ?_;simp only[go_sem,Int.reduceBEq,k3,k5,hr,y5,bne,A1];exact qf _
  have y5:(qo==0)=true:=by simp[z5]
  obtain⟨i,d,di,hd,qV⟩:=Ac7 (qL rfl rfl z5)
  rw[di]at qr
  have qw:d.row=[iV d.kind,iV d.line,.str d.nm,iV d.size,iV d.init,.str d.on]:=rfl;obtain⟨_,i1,z1,rfl⟩:=Pj h1 (by omega) 4 4 d.on;simp only[go_sem,Int.reduceBEq,k3,k5,hr];refine Ad qq (by simp only[go_sem]) ?_;simp only[go_sem,Int.reduceBEq,k3,k5,hr,y5,bne,Ay];refine Ag (by kernel_rfl) ?_;simp only[go_sem,Int.reduceBEq,k3,k5,hr];refine Bk qr (by simp only[go_sem]) ?_;simp only[go_sem,Int.reduceBEq,k3,k5,hr,Aj,hd,qw];refine Adh i1 (by repeat (first | exact trivial | refine⟨.inl (by rfl),?_⟩ | refine⟨by rfl,?_⟩ | refine⟨.inr ⟨by rfl,by rfl⟩,?_⟩)) (by repeat (first | exact trivial | refine⟨.inl (by rfl),?_⟩ | refine⟨by rfl,?_⟩ | refine⟨.inr ⟨by rfl,by rfl⟩,?_⟩ | refine⟨.inr ⟨by(first | exact Jl rfl rfl | exact Em rfl ⟨_,_,by assumption,by rfl⟩ | exact Em rfl ⟨_,_,Bx (by assumption),by rfl⟩ | exact En (by assumption) rfl (by rfl) | exact En (Bx (by assumption)) rfl (by rfl)),by(first | exact Jl rfl rfl | exact Em rfl ⟨_,_,by assumption,by rfl⟩ | exact Em rfl ⟨_,_,Bx (by assumption),by rfl⟩ | exact En (by assumption) rfl (by rfl) | exact En (Bx (by assumption)) rfl (by rfl))⟩,?_⟩)) ?_;simp only[go_sem]
  cases tx<;>cases z1<;>cases ao
  all_goals
   simp only[go_sem,Int.reduceBEq,k3,k5,hr,Ay,A1]
   first
    | exact(Gz true).elim fun _ ⟨nq,r1,er⟩=>by subst er;exact Ad nq (by simp only[go_sem]) (by simp only[go_sem];exact qf _)
    | exact(Gz false).elim fun _ ⟨nq,r1,er⟩=>by subst er;exact Ad nq (by simp only[go_sem]) (by simp only[go_sem];exact qf _)
 have o9:(op==9)=false:=by simp[o9]
 by_cases qE:op=10
 .subst qE;by_cases z5:qo=0;rotate_left
  .have y5:(qo==0)=false:=by simp[z5]
   simp only[go_sem,Int.reduceBEq,k3,k5,hr];refine Ad qq (by simp only[go_sem]) ?_;simp only[go_sem,Int.reduceBEq,k3,k5,hr,y5,bne,A1];exact qf _
  have y5:(qo==0)=true:=by simp[z5]
  obtain⟨i,d,di,hd,qV⟩:=Ac7 (qL rfl rfl z5)
  rw[di]at qr
  have qw:d.row=[iV d.kind,iV d.line,.str d.nm,iV d.size,iV d.init,.str d.on]:=rfl;obtain⟨_,i1,z1,rfl⟩:=Pj h1 (by omega) 4 4 d.on;simp only[go_sem,Int.reduceBEq,k3,k5,hr];refine Ad qq (by simp only[go_sem]) ?_;simp only[go_sem,Int.reduceBEq,k3,k5,hr,y5,bne,Ay];refine Ag (by kernel_rfl) ?_;simp only[go_sem,Int.reduceBEq,k3,k5,hr];refine Bk qr (by simp only[go_sem]) ?_;simp only[go_sem,Int.reduceBEq,k3,k5,hr,Aj,hd,qw];refine Adh i1 (by repeat (first | exact trivial | refine⟨.inl (by rfl),?_⟩ | refine⟨by rfl,?_⟩ | refine⟨.inr ⟨by rfl,by rfl⟩,?_⟩)) (by repeat (first | exact trivial | refine⟨.inl (by rfl),?_⟩ | refine⟨by rfl,?_⟩ | refine⟨.inr ⟨by rfl,by rfl⟩,?_⟩ | refine⟨.inr ⟨by(first | exact Jl rfl rfl | exact Em rfl ⟨_,_,by assumption,by rfl⟩ | exact Em rfl ⟨_,_,Bx (by assumption),by rfl⟩ | exact En (by assumption) rfl (by rfl) | exact En (Bx (by assumption)) rfl (by rfl)),by(first | exact Jl rfl rfl | exact Em rfl ⟨_,_,by assumption,by rfl⟩ | exact Em rfl ⟨_,_,Bx (by assumption),by rfl⟩ | exact En (by assumption) rfl (by rfl) | exact En (Bx (by assumption)) rfl (by rfl))⟩,?_⟩)) ?_;simp only[go_sem]
  cases tx<;>cases z1<;>cases ao
  all_goals
   simp only[go_sem,Int.reduceBEq,k3,k5,hr,Ay,A1]
   first
    | exact(Gz true).elim fun _ ⟨nq,r1,er⟩=>by subst er;exact Ad nq (by simp only[go_sem]) (by simp only[go_sem];exact qf _)
    | exact(Gz false).elim fun _ ⟨nq,r1,er⟩=>by subst er;exact Ad nq (by simp only[go_sem]) (by simp only[go_sem];exact qf _)
 have qE:(op==10)=false:=by simp[qE]
 by_cases qF:op=11
 .subst qF;by_cases z5:qo=0;rotate_left
  .have y5:(qo==0)=false:=by simp[z5]
   simp only[go_sem,Int.reduceBEq,k3,k5,hr];refine Ad qq (by simp only[go_sem]) ?_;simp only[go_sem,Int.reduceBEq,k3,k5,hr,y5,bne,A1];exact qf _
  have y5:(qo==0)=true:=by simp[z5]
  obtain⟨i,d,di,hd,qV⟩:=Ac7 (qL rfl rfl z5)
  rw[di]at qr
  have qw:d.row=[iV d.kind,iV d.line,.str d.nm,iV d.size,iV d.init,.str d.on]:=rfl;obtain⟨_,i1,z1,rfl⟩:=Pj h1 (by omega) 4 4 d.on;simp only[go_sem,Int.reduceBEq,k3,k5,hr];refine Ad qq (by simp only[go_sem]) ?_;simp only[go_sem,Int.reduceBEq,k3,k5,hr,y5,bne,Ay];refine Ag (by kernel_rfl) ?_;simp only[go_sem,Int.reduceBEq,k3,k5,hr];refine Bk qr (by simp only[go_sem]) ?_;simp only[go_sem,Int.reduceBEq,k3,k5,hr,Aj,hd,qw];refine Adh i1 (by repeat (first | exact trivial | refine⟨.inl (by rfl),?_⟩ | refine⟨by rfl,?_⟩ | refine⟨.inr ⟨by rfl,by rfl⟩,?_⟩)) (by repeat (first | exact trivial | refine⟨.inl (by rfl),?_⟩ | refine⟨by rfl,?_⟩ | refine⟨.inr ⟨by rfl,by rfl⟩,?_⟩ | refine⟨.inr ⟨by(first | exact Jl rfl rfl | exact Em rfl ⟨_,_,by assumption,by rfl⟩ | exact Em rfl ⟨_,_,Bx (by assumption),by rfl⟩ | exact En (by assumption) rfl (by rfl) | exact En (Bx (by assumption)) rfl (by rfl)),by(first | exact Jl rfl rfl | exact Em rfl ⟨_,_,by assumption,by rfl⟩ | exact Em rfl ⟨_,_,Bx (by assumption),by rfl⟩ | exact En (by assumption) rfl (by rfl) | exact En (Bx (by assumption)) rfl (by rfl))⟩,?_⟩)) ?_;simp only[go_sem]
  cases tx<;>cases z1<;>cases ao
  all_goals
   simp only[go_sem,Int.reduceBEq,k3,k5,hr,Ay,A1]
   first
    | exact(Gz true).elim fun _ ⟨nq,r1,er⟩=>by subst er;exact Ad nq (by simp only[go_sem]) (by simp only[go_sem];exact qf _)
    | exact(Gz false).elim fun _ ⟨nq,r1,er⟩=>by subst er;exact Ad nq (by simp only[go_sem]) (by simp only[go_sem];exact qf _)
 have qF:(op==11)=false:=by simp[qF]
 by_cases qG:op=12
 .subst qG;by_cases z7:qt=0;rotate_left
  .have y7:(qt==0)=false:=by simp[z7]
   simp only[go_sem,Int.reduceBEq,k3,k5,hr];refine Ad qu (by simp only[go_sem]) ?_;simp only[go_sem,Int.reduceBEq,k3,k5,hr,y7,bne,A1];exact qf _
  have y7:(qt==0)=true:=by simp[z7]
  simp only[go_sem,Int.reduceBEq,k3,k5,hr];refine Ad qu (by simp only[go_sem]) ?_;simp only[go_sem,Int.reduceBEq,k3,k5,hr,y7,bne,Ay];refine Ad qZ (by simp only[go_sem]) ?_;by_cases qK:tx=true\/ao=true\/lp=true\/Bz (fun d:Tp=>d.nm==nm) p.thrs=th\/Bz (fun d:Tp=>d.nm==nm) p.thrs=0
  .by_cases b1:Bz (fun d:Tp=>d.nm==nm) p.thrs=th<;>by_cases b2:Bz (fun d:Tp=>d.nm==nm) p.thrs=0<;>cases tx<;>cases ao<;>cases lp
   all_goals first | (exfalso;simp[b1,b2]at qK;done) | skip
   all_goals
    first | have y1:(Bz (fun d:Tp=>d.nm==nm) p.thrs==th)=true:=by simp[b1];done | have y1:(Bz (fun d:Tp=>d.nm==nm) p.thrs==th)=false:=by simp[b1];done
    first | have y2:(Bz (fun d:Tp=>d.nm==nm) p.thrs==0)=true:=by simp[b2];done | have y2:(Bz (fun d:Tp=>d.nm==nm) p.thrs==0)=false:=by simp[b2];done
    simp only[go_sem,Int.reduceBEq,k3,k5,hr,y1,y2];exact qf _
  simp only[not_or,Xr]at qK;obtain⟨rfl,rfl,rfl,b1,b2⟩:=qK;have y1:(Bz (fun d:Tp=>d.nm==nm) p.thrs==th)=false:=by simp[b1]
  have y2:(Bz (fun d:Tp=>d.nm==nm) p.thrs==0)=false:=by simp[b2]
  simp only[go_sem,Int.reduceBEq,k3,k5,hr,y1,y2];obtain⟨z,qy⟩:=Akk h1.s;have qv:=Wk z 0 S nm (by omega);refine Ag (by kernel_rfl) ?_;simp only[go_sem,Int.reduceBEq,k3,k5,hr];refine Ai2 (.cons qy (.cons (Jy rfl) .nil)) qv rfl ?_;by_cases c3:0<=Bz (·==nm) S
  .have f3:(0<=Bz (·==nm) S)=True:=eq_true c3;simp only[go_sem,Int.reduceBEq,k3,k5,hr,f3,ge_iff_le];exact qf _
  have f3:(0<=Bz (·==nm) S)=False:=eq_false c3;simp only[go_sem,Int.reduceBEq,k3,k5,hr,f3,ge_iff_le];obtain⟨u',s2,ha,qd,r2,h2,f2⟩:=Bj0 h1 nm (by simp;omega);obtain⟨qh,qg⟩:=Oj qd;refine Ag (by kernel_rfl) ?_;simp only[go_sem,Int.reduceBEq,k3,k5,hr,ha];refine Ba ?_;simp only[go_sem,Int.reduceBEq,k3,k5,hr,r2,qh,qg];refine Ba ?_;simp only[go_sem];exact⟨_,rfl,⟨rfl,rfl⟩,⟨Cw f1.1 f2.1,h2.cl⟩,_,rfl,_,_,S++[nm],T,by rw[Dw];exact h2,Fr f1 f2,by simp,by omega⟩
 have qG:(op==12)=false:=by simp[qG]
 by_cases qH:op=13
 .subst qH;cases tx;rotate_left
  .obtain⟨_,nq,r1,rfl⟩:=Gz true;obtain⟨_,oq,r2,rfl⟩:=Gs qt r1;simp only[go_sem,Int.reduceBEq,k3,k5,hr];refine Ad qu (by simp only[go_sem]) ?_;simp only[go_sem,Int.reduceBEq,k3,k5,hr];refine Ad nq (by simp only[go_sem]) ?_;simp only[go_sem];refine Ad oq (by simp only[go_sem]) ?_;simp only[go_sem];exact qf _
  cases ao;rotate_left
  .obtain⟨_,nq,r1,rfl⟩:=Gz true;obtain⟨_,oq,r2,rfl⟩:=Gs qt r1;simp only[go_sem,Int.reduceBEq,k3,k5,hr];refine Ad qu (by simp only[go_sem]) ?_;simp only[go_sem,Int.reduceBEq,k3,k5,hr];refine Ad nq (by simp only[go_sem]) ?_;simp only[go_sem];refine Ad oq (by simp only[go_sem]) ?_;simp only[go_sem];exact qf _
  obtain⟨_,nq,r1,rfl⟩:=Gz (Bz (fun d:Tp=>d.nm==nm) p.thrs==th);obtain⟨_,oq,r2,rfl⟩:=Gs qt r1;simp only[go_sem,Int.reduceBEq,k3,k5,hr];refine Ad qu (by simp only[go_sem]) ?_;simp only[go_sem,Int.reduceBEq,k3,k5,hr];refine Ad qZ (by simp only[go_sem]) ?_;simp only[go_sem,Int.reduceBEq,k3,k5,hr];refine Ad nq (by simp only[go_sem]) ?_;simp only[go_sem];refine Ad oq (by simp only[go_sem]) ?_;simp only[go_sem];exact qf _
 have qH:(op==13)=false:=by simp[qH]
 by_cases qI:op=14
 .subst qI;cases tx
  .obtain⟨_,nq,r1,rfl⟩:=Gz lp;obtain⟨_,oq,r2,rfl⟩:=Gs qY r1;simp only[go_sem,Int.reduceBEq,k3,k5,hr];refine Ad qR (by simp only[go_sem]) ?_;simp only[go_sem,Int.reduceBEq,k3,k5,hr];refine Ad nq (by simp only[go_sem]) ?_;simp only[go_sem];refine Ad oq (by simp only[go_sem]) ?_;cases y:(r2==0)
   .simp only[go_sem,Int.reduceBEq,k3,k5,hr,y];refine Ag (by kernel_rfl) ?_;simp only[go_sem,Int.reduceBEq,k3,k5,hr,y];obtain⟨u',s2,ha,qd,qm,h2,f2⟩:=W8 h1 nm (by simp;omega);obtain⟨qh,qg⟩:=Oj qd;obtain⟨_,ql,r3,rfl⟩:=Gs r2 e0;have qj:(s2.set w (.row [SL p.dz p.dt (p.decls.map Dp.row),SL p.tz p.tt (p.thrs.map Tp.row),iV th,uA,uS,u'] 148 0 0))[n]?=some (.row [iV 14,iV line,.str nm,.str arg,SL iz it (idx.map Xp.row),iV ex.op,iV ex.n,.str ex.nm,SL ex.z ex.t (ex.l.map Xp.row),SL bz bt (body.map Sp.row),SL ez et (els.map Sp.row)] 104 0 0):=by rw[f2.2.1 n (Ak.1 k3).1 (qi n hn)];exact k3
    have qk:(s2.set w (.row [SL p.dz p.dt (p.decls.map Dp.row),SL p.tz p.tt (p.thrs.map Tp.row),iV th,uA,uS,u'] 148 0 0))[m]?=some (.row [SL p.dz p.dt (p.decls.map Dp.row),SL p.tz p.tt (p.thrs.map Tp.row)] 29 0 0):=by rw[f2.2.1 m (Ak.1 k5).1 (qi m hm)];exact k5
    refine Ag (by kernel_rfl) ?_;simp only[go_sem,Int.reduceBEq,k3,k5,hr,ha];refine Ba ?_;simp only[go_sem,Int.reduceBEq,k3,k5,hr,qm,qh,qg];refine Ba ?_;simp only[go_sem,qj,qk];refine Ad q0 (by simp only[go_sem]) ?_;simp only[go_sem];refine Ad ql (by simp only[go_sem]) ?_;simp only[go_sem];exact⟨_,rfl,⟨rfl,rfl⟩,⟨Cw f1.1 f2.1,h2.cl⟩,_,rfl,_,_,S,T++[nm],by rw[Dw];exact h2,Fr f1 f2,by omega,by simp⟩
   .obtain⟨z,qy⟩:=Akk h1.t;have qv:=Wk z 0 T nm (by omega);simp only[go_sem];refine Ag (by kernel_rfl) ?_;simp only[go_sem,Int.reduceBEq,k3,k5,hr,y];refine Ai2 (.cons qy (.cons (Jy rfl) .nil)) qv rfl ?_;by_cases c3:0<=Bz (·==nm) T
    .have f3:(0<=Bz (·==nm) T)=True:=eq_true c3;simp only[go_sem,Int.reduceBEq,k3,k5,hr,f3,ge_iff_le];obtain⟨u',s2,ha,qd,qm,h2,f2⟩:=W8 h1 nm (by simp;omega);obtain⟨qh,qg⟩:=Oj qd;obtain⟨_,ql,r3,rfl⟩:=Gs 8 e0;have qj:(s2.set w (.row [SL p.dz p.dt (p.decls.map Dp.row),SL p.tz p.tt (p.thrs.map Tp.row),iV th,uA,uS,u'] 148 0 0))[n]?=some (.row [iV 14,iV line,.str nm,.str arg,SL iz it (idx.map Xp.row),iV ex.op,iV ex.n,.str ex.nm,SL ex.z ex.t (ex.l.map Xp.row),SL bz bt (body.map Sp.row),SL ez et (els.map Sp.row)] 104 0 0):=by rw[f2.2.1 n (Ak.1 k3).1 (qi n hn)];exact k3
     have qk:(s2.set w (.row [SL p.dz p.dt (p.decls.map Dp.row),SL p.tz p.tt (p.thrs.map Tp.row),iV th,uA,uS,u'] 148 0 0))[m]?=some (.row [SL p.dz p.dt (p.decls.map Dp.row),SL p.tz p.tt (p.thrs.map Tp.row)] 29 0 0):=by rw[f2.2.1 m (Ak.1 k5).1 (qi m hm)];exact k5
     refine Ag (by kernel_rfl) ?_;simp only[go_sem,Int.reduceBEq,k3,k5,hr,ha];refine Ba ?_;simp only[go_sem,Int.reduceBEq,k3,k5,hr,qm,qh,qg];refine Ba ?_;simp only[go_sem,qj,qk];refine Ad q0 (by simp only[go_sem]) ?_;simp only[go_sem];refine Ad ql (by simp only[go_sem]) ?_;simp only[go_sem];exact⟨_,rfl,⟨rfl,rfl⟩,⟨Cw f1.1 f2.1,h2.cl⟩,_,rfl,_,_,S,T++[nm],by rw[Dw];exact h2,Fr f1 f2,by omega,by simp⟩
    .have f3:(0<=Bz (·==nm) T)=False:=eq_false c3;simp only[go_sem,Int.reduceBEq,k3,k5,hr,f3,ge_iff_le];obtain⟨u',s2,ha,qd,qm,h2,f2⟩:=W8 h1 nm (by simp;omega);obtain⟨qh,qg⟩:=Oj qd;obtain⟨_,ql,r3,rfl⟩:=Gs r2 e0;have qj:(s2.set w (.row [SL p.dz p.dt (p.decls.map Dp.row),SL p.tz p.tt (p.thrs.map Tp.row),iV th,uA,uS,u'] 148 0 0))[n]?=some (.row [iV 14,iV line,.str nm,.str arg,SL iz it (idx.map Xp.row),iV ex.op,iV ex.n,.str ex.nm,SL ex.z ex.t (ex.l.map Xp.row),SL bz bt (body.map Sp.row),SL ez et (els.map Sp.row)] 104 0 0):=by rw[f2.2.1 n (Ak.1 k3).1 (qi n hn)];exact k3
     have qk:(s2.set w (.row [SL p.dz p.dt (p.decls.map Dp.row),SL p.tz p.tt (p.thrs.map Tp.row),iV th,uA,uS,u'] 148 0 0))[m]?=some (.row [SL p.dz p.dt (p.decls.map Dp.row),SL p.tz p.tt (p.thrs.map Tp.row)] 29 0 0):=by rw[f2.2.1 m (Ak.1 k5).1 (qi m hm)];exact k5
     refine Ag (by kernel_rfl) ?_;simp only[go_sem,Int.reduceBEq,k3,k5,hr,ha];refine Ba ?_;simp only[go_sem,Int.reduceBEq,k3,k5,hr,qm,qh,qg];refine Ba ?_;simp only[go_sem,qj,qk];refine Ad q0 (by simp only[go_sem]) ?_;simp only[go_sem];refine Ad ql (by simp only[go_sem]) ?_;simp only[go_sem];exact⟨_,rfl,⟨rfl,rfl⟩,⟨Cw f1.1 f2.1,h2.cl⟩,_,rfl,_,_,S,T++[nm],by rw[Dw];exact h2,Fr f1 f2,by omega,by simp⟩
  .obtain⟨_,nq,r1,rfl⟩:=Gz true;obtain⟨_,oq,r2,rfl⟩:=Gs qY r1;simp only[go_sem,Int.reduceBEq,k3,k5,hr];refine Ad qR (by simp only[go_sem]) ?_;simp only[go_sem,Int.reduceBEq,k3,k5,hr];refine Ad nq (by simp only[go_sem]) ?_;simp only[go_sem];refine Ad oq (by simp only[go_sem]) ?_;cases y:(r2==0)
   .simp only[go_sem,Int.reduceBEq,k3,k5,hr,y];refine Ag (by kernel_rfl) ?_;simp only[go_sem,Int.reduceBEq,k3,k5,hr,y];obtain⟨u',s2,ha,qd,qm,h2,f2⟩:=W8 h1 nm (by simp;omega);obtain⟨qh,qg⟩:=Oj qd;obtain⟨_,ql,r3,rfl⟩:=Gs r2 e0;have qj:(s2.set w (.row [SL p.dz p.dt (p.decls.map Dp.row),SL p.tz p.tt (p.thrs.map Tp.row),iV th,uA,uS,u'] 148 0 0))[n]?=some (.row [iV 14,iV line,.str nm,.str arg,SL iz it (idx.map Xp.row),iV ex.op,iV ex.n,.str ex.nm,SL ex.z ex.t (ex.l.map Xp.row),SL bz bt (body.map Sp.row),SL ez et (els.map Sp.row)] 104 0 0):=by rw[f2.2.1 n (Ak.1 k3).1 (qi n hn)];exact k3
    have qk:(s2.set w (.row [SL p.dz p.dt (p.decls.map Dp.row),SL p.tz p.tt (p.thrs.map Tp.row),iV th,uA,uS,u'] 148 0 0))[m]?=some (.row [SL p.dz p.dt (p.decls.map Dp.row),SL p.tz p.tt (p.thrs.map Tp.row)] 29 0 0):=by rw[f2.2.1 m (Ak.1 k5).1 (qi m hm)];exact k5
    refine Ag (by kernel_rfl) ?_;simp only[go_sem,Int.reduceBEq,k3,k5,hr,ha];refine Ba ?_;simp only[go_sem,Int.reduceBEq,k3,k5,hr,qm,qh,qg];refine Ba ?_;simp only[go_sem,qj,qk];refine Ad q0 (by simp only[go_sem]) ?_;simp only[go_sem];refine Ad ql (by simp only[go_sem]) ?_;simp only[go_sem];exact⟨_,rfl,⟨rfl,rfl⟩,⟨Cw f1.1 f2.1,h2.cl⟩,_,rfl,_,_,S,T++[nm],by rw[Dw];exact h2,Fr f1 f2,by omega,by simp⟩
   .obtain⟨z,qy⟩:=Akk h1.t;have qv:=Wk z 0 T nm (by omega);simp only[go_sem];refine Ag (by kernel_rfl) ?_;simp only[go_sem,Int.reduceBEq,k3,k5,hr,y];refine Ai2 (.cons qy (.cons (Jy rfl) .nil)) qv rfl ?_;by_cases c3:0<=Bz (·==nm) T
    .have f3:(0<=Bz (·==nm) T)=True:=eq_true c3;simp only[go_sem,Int.reduceBEq,k3,k5,hr,f3,ge_iff_le];obtain⟨u',s2,ha,qd,qm,h2,f2⟩:=W8 h1 nm (by simp;omega);obtain⟨qh,qg⟩:=Oj qd;obtain⟨_,ql,r3,rfl⟩:=Gs 8 e0;have qj:(s2.set w (.row [SL p.dz p.dt (p.decls.map Dp.row),SL p.tz p.tt (p.thrs.map Tp.row),iV th,uA,uS,u'] 148 0 0))[n]?=some (.row [iV 14,iV line,.str nm,.str arg,SL iz it (idx.map Xp.row),iV ex.op,iV ex.n,.str ex.nm,SL ex.z ex.t (ex.l.map Xp.row),SL bz bt (body.map Sp.row),SL ez et (els.map Sp.row)] 104 0 0):=by rw[f2.2.1 n (Ak.1 k3).1 (qi n hn)];exact k3
     have qk:(s2.set w (.row [SL p.dz p.dt (p.decls.map Dp.row),SL p.tz p.tt (p.thrs.map Tp.row),iV th,uA,uS,u'] 148 0 0))[m]?=some (.row [SL p.dz p.dt (p.decls.map Dp.row),SL p.tz p.tt (p.thrs.map Tp.row)] 29 0 0):=by rw[f2.2.1 m (Ak.1 k5).1 (qi m hm)];exact k5
     refine Ag (by kernel_rfl) ?_;simp only[go_sem,Int.reduceBEq,k3,k5,hr,ha];refine Ba ?_;simp only[go_sem,Int.reduceBEq,k3,k5,hr,qm,qh,qg];refine Ba ?_;simp only[go_sem,qj,qk];refine Ad q0 (by simp only[go_sem]) ?_;simp only[go_sem];refine Ad ql (by simp only[go_sem]) ?_;simp only[go_sem];exact⟨_,rfl,⟨rfl,rfl⟩,⟨Cw f1.1 f2.1,h2.cl⟩,_,rfl,_,_,S,T++[nm],by rw[Dw];exact h2,Fr f1 f2,by omega,by simp⟩
    .have f3:(0<=Bz (·==nm) T)=False:=eq_false c3;simp only[go_sem,Int.reduceBEq,k3,k5,hr,f3,ge_iff_le];obtain⟨u',s2,ha,qd,qm,h2,f2⟩:=W8 h1 nm (by simp;omega);obtain⟨qh,qg⟩:=Oj qd;obtain⟨_,ql,r3,rfl⟩:=Gs r2 e0;have qj:(s2.set w (.row [SL p.dz p.dt (p.decls.map Dp.row),SL p.tz p.tt (p.thrs.map Tp.row),iV th,uA,uS,u'] 148 0 0))[n]?=some (.row [iV 14,iV line,.str nm,.str arg,SL iz it (idx.map Xp.row),iV ex.op,iV ex.n,.str ex.nm,SL ex.z ex.t (ex.l.map Xp.row),SL bz bt (body.map Sp.row),SL ez et (els.map Sp.row)] 104 0 0):=by rw[f2.2.1 n (Ak.1 k3).1 (qi n hn)];exact k3
     have qk:(s2.set w (.row [SL p.dz p.dt (p.decls.map Dp.row),SL p.tz p.tt (p.thrs.map Tp.row),iV th,uA,uS,u'] 148 0 0))[m]?=some (.row [SL p.dz p.dt (p.decls.map Dp.row),SL p.tz p.tt (p.thrs.map Tp.row)] 29 0 0):=by rw[f2.2.1 m (Ak.1 k5).1 (qi m hm)];exact k5
     refine Ag (by kernel_rfl) ?_;simp only[go_sem,Int.reduceBEq,k3,k5,hr,ha];refine Ba ?_;simp only[go_sem,Int.reduceBEq,k3,k5,hr,qm,qh,qg];refine Ba ?_;simp only[go_sem,qj,qk];refine Ad q0 (by simp only[go_sem]) ?_;simp only[go_sem];refine Ad ql (by simp only[go_sem]) ?_;simp only[go_sem];exact⟨_,rfl,⟨rfl,rfl⟩,⟨Cw f1.1 f2.1,h2.cl⟩,_,rfl,_,_,S,T++[nm],by rw[Dw];exact h2,Fr f1 f2,by omega,by simp⟩
 have qI:(op==14)=false:=by simp[qI]
 obtain⟨_,nq,r1,rfl⟩:=Gz tx;obtain⟨_,oq,r2,rfl⟩:=Gs jj r1;obtain⟨_,qP,r3,rfl⟩:=Gs ji r2;simp only[go_sem,Int.reduceBEq,k3,k5,hr,o1,o2,o3,o4,o5,o6,o7,o8,o9,qE,qF,qG,qH,qI];refine Ag (by kernel_rfl) ?_;simp only[go_sem,Int.reduceBEq,k3,k5,hr];refine Bk jc (by simp only[go_sem]) ?_;simp only[go_sem,Int.reduceBEq,k3,k5,hr];refine Bk qS (by simp only[go_sem]) ?_;simp only[go_sem,Int.reduceBEq,k3,k5,hr];refine Bk nq (by simp only[go_sem]) ?_;simp only[go_sem,Int.reduceBEq,k3,k5,hr];refine Bk oq (by simp only[go_sem]) ?_;simp only[go_sem,Int.reduceBEq,k3,k5,hr];refine Bk qP (by simp only[go_sem]) ?_;simp only[go_sem];exact qf _
