/- Walks: names and expressions as the static rules see them. -/
import Derived.Test.YtcoeikinocflnaaGreatDoorMh
set_option linter.all false
namespace Go.Proofs.YtcoeikinocflnaaGreatDoor.KM
open Go
def Bk{α:Type}(p:α->Bool):List α->Int
 | [] => -1
 | a::l=>if p a then 0 else if Bk p l<0 then -1 else Bk p l+1
theorem Xt{α:Type}(p:α->Bool):∀ l:List α,-1<=Bk p l/\Bk p l<l.length
 | []=>by simp[Bk]
 | a::l=>by
  have:=Xt p l;simp only[Bk,Am]
  split
  ·omega
  ·split<;>omega
theorem Xu{α:Type}{p:α->Bool}:∀ {l:List α} {i:Nat} {a:α},(∀ b∈l.take i,p b=false)->l[i]?=some a->p a=true->Bk p l=i
 | [],i,a,_,h,_=>by simp at h
 | b::l,0,a,_,h,hp=>by
  simp at h;subst h;simp[Bk,hp]
 | b::l,i+1,a,hn,h,hp=>by
  have h1:=Xu (l:=l) (i:=i) (a:=a) (fun c hc=>hn c (by simp[hc])) (by simpa using h) hp;have h2:=hn b (by simp);simp only[Bk,h2,h1];simp;omega
theorem Xf{α:Type}{p:α->Bool}:∀ {l:List α},(∀ b∈l,p b=false)->Bk p l = -1
 | [],_=>rfl
 | b::l,h=>by
  simp only[Bk,h b (by simp),Xf (l:=l) fun c hc=>h c (by simp[hc])];simp
theorem Xv{α:Type}{p:α->Bool}{l:List α}(h:0<=Bk p l):∃ (i:Nat) (a:α),Bk p l=i/\l[i]?=some a/\i<l.length:=by
 have h2:=(Xt p l).2;obtain⟨i,hi⟩:∃ i:Nat,Bk p l=i:=⟨(Bk p l).toNat,by omega⟩;exact⟨i,l[i]'(by omega),hi,A0 (by omega),by omega⟩
theorem Aa0{α:Type}{p:α->Bool}{l:List α}{i:Nat}{a:α}(h:∀ b∈l.take i,p b=false)(ha:l[i]?=some a)(hp:p a=false):∀ b∈l.take (i+1),p b=false:=by
 intro b hb;rw[List.take_succ,ha]at hb;rcases Cq.1 hb with hb | hb
 ·exact h b hb
 ·simp at hb;rw[hb];exact hp
theorem Rl(z:Bool)(t:Nat)(l:List (List UInt8))(s:List UInt8)(hl:l.length<=9223372036854775806):Fn TT PT 138 [SL z t (l.map fun x=>[V.str x]),.str s] (.int .i64 (Bk (·==s) l)):=by
 have n1:(l.map fun x=>[V.str x]).length=l.length:=Bl ..;refine Bn T138 rfl ?_;simp only[go_sem];refine B9 (α:=Nat) (fun i=>l.length - i) (fun i=>[(0,SL z t (l.map fun x=>[V.str x])),(1,.str s),(5,.int .i64 (i:Int))]) (fun _=>[]) (fun i=>i<=l.length/\∀ b∈l.take i,(b==s)=false) ?_ 0 ⟨A2 _,by simp⟩;rintro i ⟨hi,hc⟩ ih;refine Ca (by delta lp138_0;exact rfl) ?_;rcases Bx i l.length with h' | h'
 ·obtain⟨x,hx,-,-⟩:=Dd h';cases hp:(x==s)
  ·simp only[go_sem,n1,B7 h',Bb,hx,hp,Bg (show i<9223372036854775807 by omega)];exact Bi (ih (i+1) (by omega) ⟨h',Aa0 hc hx hp⟩) rfl
  ·rw[Xu hc hx hp];simp only[go_sem,n1,B7 h',Bb,hx,hp];exact An rfl rfl
 ·rw[Jf h']at hc;rw[Xf hc];simp only[go_sem,n1,Cr h'];exact An rfl rfl
theorem Rm(z:Bool)(t:Nat)(l:List Dp)(s:List UInt8)(hl:l.length<=9223372036854775806):Fn TT PT 136 [SL z t (l.map Dp.row),.str s] (.int .i64 (Bk (fun d:Dp=>d.nm==s) l)):=by
 have n1:(l.map Dp.row).length=l.length:=Bl ..;refine Bn T136 rfl ?_;simp only[go_sem];refine B9 (α:=Nat) (fun i=>l.length - i) (fun i=>[(0,SL z t (l.map Dp.row)),(1,.str s),(5,.int .i64 (i:Int))]) (fun _=>[]) (fun i=>i<=l.length/\∀ b∈l.take i,(b.nm==s)=false) ?_ 0 ⟨A2 _,by simp⟩;rintro i ⟨hi,hc⟩ ih;refine Ca (by delta lp136_0;exact rfl) ?_;rcases Bx i l.length with h' | h'
 ·obtain⟨x,hx,-,-⟩:=Dd h';have hrow:x.row=[.int .i64 x.kind,.int .i64 x.line,.str x.nm,.int .i64 x.size,.int .i64 x.init,.str x.on]:=rfl;cases hp:(x.nm==s)
  ·simp only[go_sem,n1,B7 h',Bb,hx,hrow,hp,Bg (show i<9223372036854775807 by omega)];exact Bi (ih (i+1) (by omega) ⟨h',Aa0 (p:=fun d:Dp=>d.nm==s) hc hx hp⟩) rfl
  ·rw[Xu (p:=fun d:Dp=>d.nm==s) hc hx hp];simp only[go_sem,n1,B7 h',Bb,hx,hrow,hp];exact An rfl rfl
 ·rw[Jf h']at hc;rw[Xf hc];simp only[go_sem,n1,Cr h'];exact An rfl rfl
theorem Yc(z:Bool)(t:Nat)(l:List Tp)(s:List UInt8)(hl:l.length<=9223372036854775806):Fn TT PT 137 [SL z t (l.map Tp.row),.str s] (.int .i64 (Bk (fun d:Tp=>d.nm==s) l)):=by
 have n1:(l.map Tp.row).length=l.length:=Bl ..;refine Bn T137 rfl ?_;simp only[go_sem];refine B9 (α:=Nat) (fun i=>l.length - i) (fun i=>[(0,SL z t (l.map Tp.row)),(1,.str s),(5,.int .i64 (i:Int))]) (fun _=>[]) (fun i=>i<=l.length/\∀ b∈l.take i,(b.nm==s)=false) ?_ 0 ⟨A2 _,by simp⟩;rintro i ⟨hi,hc⟩ ih;refine Ca (by delta lp137_0;exact rfl) ?_;rcases Bx i l.length with h' | h'
 ·obtain⟨x,hx,-,-⟩:=Dd h';have hrow:x.row=[.str x.nm,.int .i64 x.line,SL x.lz x.lt (x.locals.map fun s=>[V.str s]),SL x.bz x.bt (x.body.map Sp.row)]:=rfl;cases hp:(x.nm==s)
  ·simp only[go_sem,n1,B7 h',Bb,hx,hrow,hp,Bg (show i<9223372036854775807 by omega)];exact Bi (ih (i+1) (by omega) ⟨h',Aa0 (p:=fun d:Tp=>d.nm==s) hc hx hp⟩) rfl
  ·rw[Xu (p:=fun d:Tp=>d.nm==s) hc hx hp];simp only[go_sem,n1,B7 h',Bb,hx,hrow,hp];exact An rfl rfl
 ·rw[Jf h']at hc;rw[Xf hc];simp only[go_sem,n1,Cr h'];exact An rfl rfl
structure LnG (p:Gp):Prop where
 d:p.decls.length<=1000000000
 t:p.thrs.length<=1000000000
 l:∀ t∈p.thrs,t.locals.length<=1000000000
theorem Akk{α:Type}{p:α->Bool}{l:List α}(h:¬ 0<=Bk p l):Bk p l = -1:=by
 have:=Xt p l;omega
theorem Yy(x:Gp):x.row.all V.rowB=true:=by
 unfold Gp.row;simp only[Au,A1,K4];rfl
theorem Aug{a b:V}(h:[a,b].all V.rowB=true):a.cellB=true/\b.cellB=true:=by
 have h:=Aj6 h;simp only[Au,A1,S8,Af]at h;exact h
theorem Pv(x:Gp):x.row=[SL x.dz x.dt (x.decls.map Dp.row),SL x.tz x.tt (x.thrs.map Tp.row)]:=rfl
theorem K5{R:V->Prop}{f p:Nat}{res:List AR}{body:AC}{vs:List V}(hT:TT f=some ⟨p,res,false,body,none⟩)(hl:vs.length=p)(h:W TT PT [.c body] (C2 0 vs) [] (Hd fun e' σ1=>∃ v,B6 e' σ1 res=some v/\(Cc v=true/\v.refs=[]/\Dw [] v=some v)/\R v)):∃ v,Fn TT PT f vs v/\R v:=by
 obtain⟨e',σ',hE,v,hr,h1,h2⟩:=h;exact⟨v,Ag9 hT rfl rfl hl ⟨e',σ',hE,v,hr,h1⟩,h2⟩
set_option maxHeartbeats 1000000 in
theorem Auh{p:Gp}(hp:LnG p)(th:Int)(s:List UInt8):∃ v,Fn TT PT 215 [.agg p.row,.int .i64 th,.str s] v/\∃ k:Int,v=.int .i64 k/\(k=5->0<=Bk (fun d:Dp=>d.nm==s) p.decls):=by
 obtain⟨dz,dt,decls,tz,tt,thrs⟩:=p;obtain⟨h1,h2,h3⟩:=hp;simp only at h1 h2 h3 ⊢;unfold Gp.row;simp only;have n1:(decls.map Dp.row).length=decls.length:=Bl ..;have n2:(thrs.map Tp.row).length=thrs.length:=Bl ..;have hd:=Rm dz dt decls s (by omega);have ht:=Yc tz tt thrs s (by omega);refine K5 T215 rfl ?_;refine El (fun e σ=>e=[(1,.int .i64 th),(2,.str s),(3,.ptr 0 0 0)]/\σ=[.row [SL dz dt (decls.map Dp.row),SL tz tt (thrs.map Tp.row)] 27 0 0]) (fun k' hk=>?_) ?_
 ·simp only[go_sem];exact hk _ _ ⟨rfl,rfl⟩
 rintro e σ ⟨rfl,rfl⟩;refine El (fun e σ=>e=[(2,.str s),(3,.ptr 0 0 0)]/\σ=[.row [SL dz dt (decls.map Dp.row),SL tz tt (thrs.map Tp.row)] 27 0 0]) (fun k' hk=>?_) ?_
 ·by_cases c1:0<=th
  ·have f1:((0:Int)<=th)=True:=eq_true c1;by_cases c2:th<thrs.length
   ·obtain⟨i,rfl⟩:∃ i:Nat,th=i:=⟨th.toNat,by omega⟩;have f2:((i:Int)<(thrs.length:Int))=True:=eq_true c2;obtain⟨x,hx,-,hm⟩:=Dd (l:=thrs) (i:=i) (by omega);have hrow:x.row=[.str x.nm,.int .i64 x.line,SL x.lz x.lt (x.locals.map fun s=>[V.str s]),SL x.bz x.bt (x.body.map Sp.row)]:=rfl;have ha:=Rl x.lz x.lt x.locals s (by have:=h3 x hm;omega);simp only[go_sem,f1,f2,n2,Bb,hx,hrow,ge_iff_le];refine Ad ha (by simp only[go_sem]) ?_;by_cases c3:0<=Bk (·==s) x.locals
    ·have f3:(0<=Bk (·==s) x.locals)=True:=eq_true c3;simp only[go_sem,f3,ge_iff_le];exact⟨_,rfl,⟨rfl,rfl,rfl⟩,8,rfl,by omega⟩
    ·have f3:(0<=Bk (·==s) x.locals)=False:=eq_false c3;simp only[go_sem,f3,ge_iff_le];exact hk _ _ ⟨rfl,rfl⟩
   ·have f2:(th<(thrs.length:Int))=False:=eq_false c2;simp only[go_sem,f1,f2,n2,ge_iff_le];exact hk _ _ ⟨rfl,rfl⟩
  ·have f1:((0:Int)<=th)=False:=eq_false c1;simp only[go_sem,f1,ge_iff_le];exact hk _ _ ⟨rfl,rfl⟩
 rintro e σ ⟨rfl,rfl⟩;by_cases c:0<=Bk (fun d:Dp=>d.nm==s) decls
 ·obtain⟨i,x,e,hx,hi⟩:=Xv c;rw[e]at hd;have f1:((i:Int)<0)=False:=eq_false (by omega);have hrow:x.row=[.int .i64 x.kind,.int .i64 x.line,.str x.nm,.int .i64 x.size,.int .i64 x.init,.str x.on]:=rfl;simp only[go_sem];refine Ad hd (by simp only[go_sem]) ?_;by_cases k1:x.kind=1
  ·have q1:(x.kind==1)=true:=by simp[k1]
   cases q5:(x.size==0)
   ·simp only[go_sem,f1,Bb,hx,hrow,q1,q5,bne,Av];exact⟨_,rfl,⟨rfl,rfl,rfl⟩,2,rfl,by omega⟩
   ·simp only[go_sem,f1,Bb,hx,hrow,q1,q5,bne,Ap];exact⟨_,rfl,⟨rfl,rfl,rfl⟩,1,rfl,by omega⟩
  have q1:(x.kind==1)=false:=by simp[k1]
  cases q2:(x.kind==2);rotate_left
  ·simp only[go_sem,f1,Bb,hx,hrow,q1,q2];exact⟨_,rfl,⟨rfl,rfl,rfl⟩,1,rfl,by omega⟩
  cases q3:(x.kind==3);rotate_left
  ·simp only[go_sem,f1,Bb,hx,hrow,q1,q2,q3];exact⟨_,rfl,⟨rfl,rfl,rfl⟩,_,rfl,fun _=>c⟩
  cases q4:(x.kind==4);rotate_left
  ·simp only[go_sem,f1,Bb,hx,hrow,q1,q2,q3,q4];exact⟨_,rfl,⟨rfl,rfl,rfl⟩,_,rfl,fun _=>c⟩
  cases q5:(x.kind==5);rotate_left
  ·simp only[go_sem,f1,Bb,hx,hrow,q1,q2,q3,q4,q5];exact⟨_,rfl,⟨rfl,rfl,rfl⟩,_,rfl,fun _=>c⟩
  cases q6:(x.kind==6)
  ·simp only[go_sem,f1,Bb,hx,hrow,q1,q2,q3,q4,q5,q6];exact⟨_,rfl,⟨rfl,rfl,rfl⟩,_,rfl,fun _=>c⟩
  ·simp only[go_sem,f1,Bb,hx,hrow,q1,q2,q3,q4,q5,q6];exact⟨_,rfl,⟨rfl,rfl,rfl⟩,_,rfl,fun _=>c⟩
 ·rw[Akk c]at hd;simp only[go_sem];refine Ad hd (by simp only[go_sem]) ?_;simp only[go_sem,Int.reduceLT,Int.reduceNeg];refine Ad ht (by simp only[go_sem]) ?_;by_cases c3:0<=Bk (fun d:Tp=>d.nm==s) thrs
  ·have f3:(0<=Bk (fun d:Tp=>d.nm==s) thrs)=True:=eq_true c3;simp only[go_sem,f3,ge_iff_le];exact⟨_,rfl,⟨rfl,rfl,rfl⟩,7,rfl,by omega⟩
  ·have f3:(0<=Bk (fun d:Tp=>d.nm==s) thrs)=False:=eq_false c3;simp only[go_sem,f3,ge_iff_le];exact⟨_,rfl,⟨rfl,rfl,rfl⟩,0,rfl,by omega⟩
theorem K0{p:Gp}(hp:LnG p)(th:Int)(s:List UInt8)(a b:Int):∃ v,Fn TT PT 181 [.agg p.row,.int .i64 th,.str s,.int .i64 a,.int .i64 b] v/\∃ e:Int,v=.int .i64 e/\(a=5->b=5->e=0->0<=Bk (fun d:Dp=>d.nm==s) p.decls):=by
 obtain⟨_,hk,k,rfl,h5⟩:=Auh hp th s;rw[Pv]at hk ⊢;refine K5 T181 rfl ?_;simp only[go_sem];refine Ad hk (by simp only[go_sem]) ?_;by_cases k0:k=0
 ·have q0:(k==0)=true:=by simp[k0]
  simp only[go_sem,q0];exact⟨_,rfl,⟨rfl,rfl,rfl⟩,5,rfl,by omega⟩
 have q0:(k==0)=false:=by simp[k0]
 by_cases ka:k=a
 ·have qa:(k==a)=true:=by simp[ka]
  simp only[go_sem,q0,qa,bne,Ap];exact⟨_,rfl,⟨rfl,rfl,rfl⟩,0,rfl,fun e _ _=>h5 (by omega)⟩
 have qa:(k==a)=false:=by simp[ka]
 by_cases kb:k=b
 ·have qb:(k==b)=true:=by simp[kb]
  simp only[go_sem,q0,qa,qb,bne,Ap,Av];exact⟨_,rfl,⟨rfl,rfl,rfl⟩,0,rfl,fun _ e _=>h5 (by omega)⟩
 have qb:(k==b)=false:=by simp[kb]
 simp only[go_sem,q0,qa,qb,bne,Ap,Av];exact⟨_,rfl,⟨rfl,rfl,rfl⟩,6,rfl,by omega⟩
theorem Aho:∀ (N:Nat) (x:Xp),Ct x.row<=N->N<=1000000000->∃ v,Fn TT PT 216 [.agg x.row] v/\∃ n d:Int,v=.tup [.int .i64 n,.int .i64 d]
 | 0,x,h,_=>by rw[Fg]at h;omega
 | N+1,x,h,hN=>by
  have h1:=Fg x;have h2:=Ib (f:=Xp.row) (fun x=>by rw[Fg];omega) x.l;have hlen:(x.l.map Xp.row).length=x.l.length:=Bl ..;have hx:=C7 x;rw[Ax]at hx ⊢;refine K5 T216 rfl ?_;simp only[go_sem];refine B9 (α:=Nat × Int × Int) (fun a=>x.l.length - a.1) (fun a=>[(1,.ptr 0 0 0),(4,.int .i64 a.2.1),(5,.int .i64 a.2.2),(6,.int .i64 (a.1:Int))]) (fun _=>[.row [.int .i64 x.op,.int .i64 x.n,.str x.nm,SL x.z x.t (x.l.map Xp.row)] 103 0 0]) (fun a=>a.1<=x.l.length) ?_ (0,1,0) (A2 _);rintro⟨i,n,d⟩ hi ih;simp only at hi ih;refine Ca (by delta lp216_0;exact rfl) ?_;rcases Bx i x.l.length with h' | h'
  ·obtain⟨y,hy,-,hm⟩:=Dd h';have hb:=Hf (f:=Xp.row) hm;obtain⟨_,hf,n',d',rfl⟩:=Aho N y (by omega) (by omega);have hys:=C7 y;have hyr:=Ax y;rw[hyr]at hf hys;simp only[go_sem,hlen,B7 h',Bb,hy,hyr];refine Ad hf (by simp only[go_sem]) ?_;simp only[go_sem,Bg (show i<9223372036854775807 by omega)];exact Bi (ih (i+1,IntKind.i64.wrap (n+n'),max d d') (by simp;omega) h') rfl
  ·simp only[go_sem,hlen,Cr h'];exact⟨_,rfl,⟨rfl,rfl,rfl⟩,_,_,rfl⟩
theorem Ahp{p:Gp}(hp:LnG p)(th:Int):∀ (N:Nat) (x:Xp),Ct x.row<=N->N<=1000000000->∃ v,Fn TT PT 217 [.agg p.row,.int .i64 th,.agg x.row] v/\∃ r:Int,v=.int .i64 r
 | 0,x,h,_=>by rw[Fg]at h;omega
 | N+1,x,h,hN=>by
  have h1:=Fg x;have h2:=Ib (f:=Xp.row) (fun x=>by rw[Fg];omega) x.l;have hlen:(x.l.map Xp.row).length=x.l.length:=Bl ..;have hx:=C7 x;have ih:∀ y∈x.l,∃ v,Fn TT PT 217 [.agg p.row,.int .i64 th,.agg y.row] v/\∃ r:Int,v=.int .i64 r:=fun y hy=>Ahp hp th N y (by have:=Hf (f:=Xp.row) hy;omega) (by omega)
  obtain⟨_,w1,r1,rfl,-⟩:=K0 hp th x.nm 8 1;obtain⟨_,w2,r2,rfl,-⟩:=K0 hp th x.nm 2 2;rw[Ax]at hx ⊢;have hps:=Yy p;rw[Pv]at ih w1 w2 hps ⊢;refine K5 T217 rfl ?_;refine El (fun e σ=>e=[(1,.int .i64 th),(3,.ptr 0 0 0),(5,.ptr 1 0 0)]/\σ=[.row [SL p.dz p.dt (p.decls.map Dp.row),SL p.tz p.tt (p.thrs.map Tp.row)] 27 0 0,.row [.int .i64 x.op,.int .i64 x.n,.str x.nm,SL x.z x.t (x.l.map Xp.row)] 103 0 0]) (fun k' hk=>?_) ?_
  ·simp only[go_sem];exact hk _ _ ⟨rfl,rfl⟩
  rintro e σ ⟨rfl,rfl⟩;refine El (fun e σ=>e=[(1,.int .i64 th),(3,.ptr 0 0 0),(5,.ptr 1 0 0),(7,.int .i64 0)]/\σ=[.row [SL p.dz p.dt (p.decls.map Dp.row),SL p.tz p.tt (p.thrs.map Tp.row)] 27 0 0,.row [.int .i64 x.op,.int .i64 x.n,.str x.nm,SL x.z x.t (x.l.map Xp.row)] 103 0 0]) (fun k' hk=>?_) ?_
  ·simp only[go_sem];exact hk _ _ ⟨rfl,rfl⟩
  rintro e σ ⟨rfl,rfl⟩;refine El (fun e σ=>∃ (r:Int) (X:V),(e=[(1,.int .i64 th),(3,.ptr 0 0 0),(5,.ptr 1 0 0),(7,.int .i64 r)]\/e=[(1,.int .i64 th),(3,.ptr 0 0 0),(5,.ptr 1 0 0),(7,.int .i64 r),(10,X)])/\σ=[.row [SL p.dz p.dt (p.decls.map Dp.row),SL p.tz p.tt (p.thrs.map Tp.row)] 27 0 0,.row [.int .i64 x.op,.int .i64 x.n,.str x.nm,SL x.z x.t (x.l.map Xp.row)] 103 0 0]) (fun k' hk=>?_) ?_
  ·by_cases o2:x.op=2
   ·have q2:(x.op==2)=true:=by simp[o2]
    simp only[go_sem,q2];refine Ad w1 (by simp only[go_sem]) ?_;simp only[go_sem];exact hk _ _ ⟨_,_,.inr rfl,rfl⟩
   have q2:(x.op==2)=false:=by simp[o2]
   by_cases o3:x.op=3
   ·have q3:(x.op==3)=true:=by simp[o3]
    simp only[go_sem,q2,q3];refine Ad w2 (by simp only[go_sem]) ?_;simp only[go_sem];exact hk _ _ ⟨_,.und,.inl rfl,rfl⟩
   have q3:(x.op==3)=false:=by simp[o3]
   simp only[go_sem,q2,q3];exact hk _ _ ⟨_,.und,.inl rfl,rfl⟩
  rintro e σ ⟨r,X,he,rfl⟩;rcases he with rfl | rfl
  all_goals
   simp only[go_sem];refine B9 (α:=Nat × Int) (fun a=>x.l.length - a.1) (fun a=>[(1,.int .i64 th),(3,.ptr 0 0 0),(5,.ptr 1 0 0),(7,.int .i64 a.2),(8,.int .i64 (a.1:Int))]) (fun _=>[.row [SL p.dz p.dt (p.decls.map Dp.row),SL p.tz p.tt (p.thrs.map Tp.row)] 27 0 0,.row [.int .i64 x.op,.int .i64 x.n,.str x.nm,SL x.z x.t (x.l.map Xp.row)] 103 0 0]) (fun a=>a.1<=x.l.length) ?_ (0,r) (A2 _);rintro⟨i,r⟩ hi jh;simp only at hi jh;refine Ca (by delta lp217_0;exact rfl) ?_;rcases Bx i x.l.length with h' | h'
   ·cases r0:(r==0)
    ·simp only[go_sem,hlen,B7 h',r0];exact⟨_,rfl,⟨rfl,rfl,rfl⟩,_,rfl⟩
    ·obtain⟨y,hy,-,hm⟩:=Dd h';obtain⟨_,hf,r',rfl⟩:=ih y hm;have hys:=C7 y;have hyr:=Ax y;rw[hyr]at hf hys;simp only[go_sem,hlen,B7 h',r0];refine Ag (by kernel_rfl) ?_;simp only[go_sem,hlen,Bb,hy,hyr];refine Bf hf (by simp only[go_sem]) ?_;simp only[go_sem,Bg (show i<9223372036854775807 by omega)];exact Bi (jh (i+1,r') (by simp;omega) h') rfl
   ·simp only[go_sem,hlen,Cr h'];exact⟨_,rfl,⟨rfl,rfl,rfl⟩,_,rfl⟩
theorem Ahq{p:Gp}(hp:LnG p)(th:Int)(x:Xp)(h:Ct x.row<=1000000000):∃ v,Fn TT PT 182 [.agg p.row,.int .i64 th,.agg x.row] v/\∃ r:Int,v=.int .i64 r:=by
 have hs:=Yb _ x h (Ah _);obtain⟨_,hn,n,d,rfl⟩:=Aho _ x h (Ah _);obtain⟨_,hm,r,rfl⟩:=Ahp hp th _ x h (Ah _);have hx:=C7 x;have hps:=Yy p;rw[Ax]at hx hs hn hm ⊢;rw[Pv]at hm hps ⊢;refine K5 T182 rfl ?_;cases b:Fr x
 ·rw[b]at hs;simp only[go_sem];refine Ad hs (by simp only[go_sem]) ?_;simp only[go_sem,Av];exact⟨_,rfl,⟨rfl,rfl,rfl⟩,_,rfl⟩
 rw[b]at hs;simp only[go_sem];refine Ad hs (by simp only[go_sem]) ?_;simp only[go_sem,Ap];refine Ad hn (by simp only[go_sem]) ?_;by_cases c1:24<n
 ·have f1:((24:Int)<n)=True:=eq_true c1;simp only[go_sem,gt_iff_lt,f1];exact⟨_,rfl,⟨rfl,rfl,rfl⟩,_,rfl⟩
 have f1:((24:Int)<n)=False:=eq_false c1;by_cases c2:6<d
 ·have f2:((6:Int)<d)=True:=eq_true c2;simp only[go_sem,gt_iff_lt,f1,f2];exact⟨_,rfl,⟨rfl,rfl,rfl⟩,_,rfl⟩
 have f2:((6:Int)<d)=False:=eq_false c2;simp only[go_sem,gt_iff_lt,f1,f2];refine Ad hm (by simp only[go_sem]) ?_;simp only[go_sem];exact⟨_,rfl,⟨rfl,rfl,rfl⟩,_,rfl⟩
theorem Fo(b:Bool):∃ v,Fn TT PT 183 [.bool b] v/\∃ r:Int,v=.int .i64 r:=by
 refine K5 T183 rfl ?_;cases b
 ·simp only[go_sem];exact⟨_,rfl,⟨rfl,rfl,rfl⟩,_,rfl⟩
 ·simp only[go_sem];exact⟨_,rfl,⟨rfl,rfl,rfl⟩,_,rfl⟩
theorem Fh(a b:Int):∃ v,Fn TT PT 180 [.int .i64 a,.int .i64 b] v/\∃ r:Int,v=.int .i64 r:=by
 refine K5 T180 rfl ?_;cases h:(a==0)
 ·simp only[go_sem,bne,h,Av];exact⟨_,rfl,⟨rfl,rfl,rfl⟩,_,rfl⟩
 ·simp only[go_sem,bne,h,Ap];exact⟨_,rfl,⟨rfl,rfl,rfl⟩,_,rfl⟩
theorem Abf:∀ (N:Nat) (z:Bool) (t:Nat) (l:List Sp),Ck (l.map Sp.row)<=N->N<=1000000000->∃ v,Fn TT PT 96 [SL z t (l.map Sp.row)] v/\∃ n:Int,v=.int .i64 n
 | N,z,t,l,h,hN=>by
  have h2:=Ib (f:=Sp.row) (fun x=>by rw[Ju];omega) l;have hlen:(l.map Sp.row).length=l.length:=Bl ..;refine K5 T96 rfl ?_;simp only[go_sem,hlen];refine B9 (α:=Nat × Int) (fun a=>l.length - a.1) (fun a=>[(0,SL z t (l.map Sp.row)),(3,.int .i64 a.2),(4,.int .i64 (a.1:Int))]) (fun _=>[]) (fun a=>a.1<=l.length) ?_ (0,_) (A2 _);rintro⟨i,n⟩ hi ih;simp only at hi ih;refine Ca (by delta lp96_0;exact rfl) ?_;rcases Bx i l.length with h' | h'
  ·obtain⟨y,hy,-,hm⟩:=Dd h';have hb:=Hf (f:=Sp.row) hm;have hbs:=Ju y
   cases N with
   | zero=>omega
   | succ N=>
    obtain⟨_,hf,n1,rfl⟩:=Abf N y.bz y.bt y.body (by omega) (by omega);obtain⟨_,hg,n2,rfl⟩:=Abf N y.ez y.et y.els (by omega) (by omega);have hrow:=Eg y;simp only[go_sem,hlen,B7 h'];refine Ag (by kernel_rfl) ?_;simp only[go_sem,Bb,hy,hrow];refine Bf hf (by simp only[go_sem]) ?_;simp only[go_sem,Bb,hy,hrow];refine Bf hg (by simp only[go_sem]) ?_;simp only[go_sem,Bg (show i<9223372036854775807 by omega)];exact Bi (ih (i+1,_) (by simp;omega) h') rfl
  ·simp only[go_sem,hlen,Cr h'];exact⟨_,rfl,⟨rfl,rfl,rfl⟩,_,rfl⟩
