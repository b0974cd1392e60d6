/- Walks: names and expressions as the static rules see them. -/
import Derived.Test.YtphikjgngompaabGreatDoorMd
set_option linter.all false
namespace Go.Proofs.YtphikjgngompaabGreatDoor.KM
open Go
def Bx{α:Type}(p:α->Bool):List α->Int
 | [] => -1
 | a::l=>if p a then 0 else if Bx p l<0 then -1 else Bx p l+1
def Afh{α:Type}(p:α->Bool):∀ l:List α,-1<=Bx p l/\Bx p l<l.length
 | []=>by simp[Bx]
 | a::l=>by
  have:=Afh p l
  grind[Bx]
def Afi{α:Type}{p:α->Bool}:∀ {l:List α} {i:Nat} {a:α},(∀ b∈l.take i,p b=false)->l[i]?=some a->p a=true->Bx p l=i
 | [],i,a,_,h,_=>by simp at h
 | b::l,0,a,_,h,hp=>by
  grind[Bx]
 | b::l,i+1,a,hn,h,hp=>by
  have h1:=Afi (l:=l) (i:=i) (a:=a) (fun c hc=>hn c (by simp[hc])) (by grind) hp
  grind[Bx]
def Aet{α:Type}{p:α->Bool}:∀ {l:List α},(∀ b∈l,p b=false)->Bx p l = -1
 | [],_=>rfl
 | b::l,h=>by
  simp only[Bx,h b AE,Aet (l:=l) fun c hc=>h c (by simp[hc])];simp
def Afj{α:Type}{p:α->Bool}{l:List α}(h:0<=Bx p l):∃ (i:Nat) (a:α),Bx p l=i/\l[i]?=some a/\i<l.length:=by
 have h2:=(Afh p l).2;obtain⟨i,hi⟩:∃ i:Nat,Bx p l=i:=⟨(Bx p l).toNat,by omega⟩;exact⟨i,l[i]' AA,hi,B9 AA,by omega⟩
def Ajw{α:Type}{p:α->Bool}{l:List α}{i:Nat}{a:α}(h:∀ b∈l.take i,p b=false)(ha:l[i]?=some a)(hp:p a=false):∀ b∈l.take (i+1),p b=false:=by
 grind[List.take_succ]
def X8(z:Bool)(t:Nat)(l:List (List UInt8))(s:List UInt8)(hl:l.length<=9223372036854775806):Fn TT PT 116 [SL z t (l.map fun x=>[V.str x]),.str s] (iV (Bx (·==s) l)):=by
 have n1:(l.map fun x=>[V.str x]).length=l.length:=Ar ..;refine Bg T116 rfl ?_;simp only[go_sem];refine Bk (α:=Nat) (fun i=>l.length - i) (fun i=>[(0,SL z t (l.map fun x=>[V.str x])),(1,.str s),(5,iV (i:Int))]) (fun _=>[]) (fun i=>i<=l.length/\∀ b∈l.take i,(b==s)=false) ?_ 0 ⟨Ax _,by simp⟩;rintro i ⟨hi,hc⟩ ih;refine Bd Bj3 ?_;rcases Bh i l.length with h' | h'
 .obtain⟨x,hx,-,-⟩:=Br h';cases hp:(x==s)
  .simp only[go_sem,n1,Az h',Au,hx,hp,A2 (show i<9223372036854775807 by omega)];exact Av (ih (i+1) AA ⟨h',Ajw hc hx hp⟩) rfl
  .rw[Afi hc hx hp];simp only[go_sem,n1,Az h',Au,hx,hp];exact Ah rfl rfl
 .rw[Ic h']at hc;rw[Aet hc];simp only[go_sem,n1,Bl h'];exact Ah rfl rfl
def X9(z:Bool)(t:Nat)(l:List Dp)(s:List UInt8)(hl:l.length<=9223372036854775806):Fn TT PT 114 [SL z t (l.map Dp.row),.str s] (iV (Bx (fun d:Dp=>d.nm==s) l)):=by
 have n1:(l.map Dp.row).length=l.length:=Ar ..;refine Bg T114 rfl ?_;simp only[go_sem];refine Bk (α:=Nat) (fun i=>l.length - i) (fun i=>[(0,SL z t (l.map Dp.row)),(1,.str s),(5,iV (i:Int))]) (fun _=>[]) (fun i=>i<=l.length/\∀ b∈l.take i,(b.nm==s)=false) ?_ 0 ⟨Ax _,by simp⟩;rintro i ⟨hi,hc⟩ ih;refine Bd Bj1 ?_;rcases Bh i l.length with h' | h'
 .obtain⟨x,hx,-,-⟩:=Br h';have qc:x.row=[iV x.kind,iV x.line,.str x.nm,iV x.size,iV x.init,.str x.on]:=rfl;cases hp:(x.nm==s)
  .simp only[go_sem,n1,Az h',Au,hx,qc,hp,A2 (show i<9223372036854775807 by omega)];exact Av (ih (i+1) AA ⟨h',Ajw (p:=fun d:Dp=>d.nm==s) hc hx hp⟩) rfl
  .rw[Afi (p:=fun d:Dp=>d.nm==s) hc hx hp];simp only[go_sem,n1,Az h',Au,hx,qc,hp];exact Ah rfl rfl
 .rw[Ic h']at hc;rw[Aet hc];simp only[go_sem,n1,Bl h'];exact Ah rfl rfl
def Agg(z:Bool)(t:Nat)(l:List Tp)(s:List UInt8)(hl:l.length<=9223372036854775806):Fn TT PT 115 [SL z t (l.map Tp.row),.str s] (iV (Bx (fun d:Tp=>d.nm==s) l)):=by
 have n1:(l.map Tp.row).length=l.length:=Ar ..;refine Bg T115 rfl ?_;simp only[go_sem];refine Bk (α:=Nat) (fun i=>l.length - i) (fun i=>[(0,SL z t (l.map Tp.row)),(1,.str s),(5,iV (i:Int))]) (fun _=>[]) (fun i=>i<=l.length/\∀ b∈l.take i,(b.nm==s)=false) ?_ 0 ⟨Ax _,by simp⟩;rintro i ⟨hi,hc⟩ ih;refine Bd Bj2 ?_;rcases Bh i l.length with h' | h'
 .obtain⟨x,hx,-,-⟩:=Br h';have qc:x.row=(tR x):=rfl;cases hp:(x.nm==s)
  .simp only[go_sem,n1,Az h',Au,hx,qc,hp,A2 (show i<9223372036854775807 by omega)];exact Av (ih (i+1) AA ⟨h',Ajw (p:=fun d:Tp=>d.nm==s) hc hx hp⟩) rfl
  .rw[Afi (p:=fun d:Tp=>d.nm==s) hc hx hp];simp only[go_sem,n1,Az h',Au,hx,qc,hp];exact Ah rfl rfl
 .rw[Ic h']at hc;rw[Aet hc];simp only[go_sem,n1,Bl h'];exact Ah rfl rfl
structure LnG (p:Gp):Prop where
 d:p.decls.length<=1000000000
 t:p.thrs.length<=1000000000
 l:∀ t∈p.thrs,t.locals.length<=1000000000
def Ay6{α:Type}{p:α->Bool}{l:List α}(h:¬ 0<=Bx p l):Bx p l = -1:=by
 have:=Afh p l;omega
def Ahc(x:Gp):x.row.all V.rowB=true:=by
 grind[Gp.row,Hn]
def Be9{a b:V}(h:[a,b].all V.rowB=true):a.cellB=true/\b.cellB=true:=by
 have h:=Vs h
 grind
def Wb(x:Gp):x.row=(gR x):=rfl
def Pe{R:V->Prop}{f p:Nat}{res:List AR}{body:AC}{vs:List V}(hT:TT f=some ⟨p,res,false,body,none⟩)(hl:vs.length=p)(h:W TT PT [.c body] (C4 0 vs) [] (Hd fun e' σ1=>∃ v,Cd e' σ1 res=some v/\(Ci v=true/\v.refs=[]/\Ed [] v=some v)/\R v)):∃ v,Fn TT PT f vs v/\R v:=by
 obtain⟨e',σ',hE,v,hr,h1,h2⟩:=h;exact⟨v,As3 hT rfl rfl hl ⟨e',σ',hE,v,hr,h1⟩,h2⟩
set_option maxHeartbeats 1000000 in
def Bfa{p:Gp}(hp:LnG p)(th:Int)(s:List UInt8):∃ v,Fn TT PT 182 [.agg p.row,iV th,.str s] v/\∃ k:Int,v=iV k/\(k=5->0<=Bx (fun d:Dp=>d.nm==s) p.decls):=by
 obtain⟨dz,dt,decls,tz,tt,thrs⟩:=p;obtain⟨h1,h2,h3⟩:=hp;simp only at h1 h2 h3 ⊢;unfold Gp.row;simp only;have n1:(decls.map Dp.row).length=decls.length:=Ar ..;have n2:(thrs.map Tp.row).length=thrs.length:=Ar ..;have hd:=X9 dz dt decls s AA;have ht:=Agg tz tt thrs s AA;refine Pe T182 rfl ?_;refine F0 (fun e σ=>e=[(1,iV th),(2,.str s),(3,.ptr 0 0 0)]/\σ=[.row [SL dz dt (decls.map Dp.row),SL tz tt (thrs.map Tp.row)] 29 0 0]) (fun k' hk=>?_) ?_
 .simp only[go_sem];exact hk _ _ ⟨rfl,rfl⟩
 rintro e σ ⟨rfl,rfl⟩;refine F0 (fun e σ=>e=[(2,.str s),(3,.ptr 0 0 0)]/\σ=[.row [SL dz dt (decls.map Dp.row),SL tz tt (thrs.map Tp.row)] 29 0 0]) (fun k' hk=>?_) ?_
 .by_cases c1:0<=th
  .have f1:((0:Int)<=th)=True:=eq_true c1;by_cases c2:th<thrs.length
   .obtain⟨i,rfl⟩:∃ i:Nat,th=i:=⟨th.toNat,by omega⟩;have f2:((i:Int)<(thrs.length:Int))=True:=eq_true c2;obtain⟨x,hx,-,hm⟩:=Br (l:=thrs) (i:=i) AA;have qc:x.row=(tR x):=rfl;have ha:=X8 x.lz x.lt x.locals s (by grind);simp only[go_sem,f1,f2,n2,Au,hx,qc,ge_iff_le];refine Ab ha AB ?_;by_cases c3:0<=Bx (·==s) x.locals
    .have f3:(0<=Bx (·==s) x.locals)=True:=eq_true c3;simp only[go_sem,f3,ge_iff_le];exact⟨_,rfl,⟨rfl,rfl,rfl⟩,8,rfl,by omega⟩
    .have f3:(0<=Bx (·==s) x.locals)=False:=eq_false c3;simp only[go_sem,f3,ge_iff_le];exact hk _ _ ⟨rfl,rfl⟩
   .have f2:(th<(thrs.length:Int))=False:=eq_false c2;simp only[go_sem,f1,f2,n2,ge_iff_le];exact hk _ _ ⟨rfl,rfl⟩
  .have f1:((0:Int)<=th)=False:=eq_false c1;simp only[go_sem,f1,ge_iff_le];exact hk _ _ ⟨rfl,rfl⟩
 rintro e σ ⟨rfl,rfl⟩;by_cases c:0<=Bx (fun d:Dp=>d.nm==s) decls
 .obtain⟨i,x,e,hx,hi⟩:=Afj c;rw[e]at hd;have f1:((i:Int)<0)=False:=eq_false AA;have qc:x.row=[iV x.kind,iV x.line,.str x.nm,iV x.size,iV x.init,.str x.on]:=rfl;simp only[go_sem];refine Ab hd AB ?_;by_cases k1:x.kind=1
  .have q1:(x.kind==1)=true:=by simp[k1]
   cases q5:(x.size==0)
   .simp only[go_sem,f1,Au,hx,qc,q1,q5,bne,A1];exact⟨_,rfl,⟨rfl,rfl,rfl⟩,2,rfl,by omega⟩
   .simp only[go_sem,f1,Au,hx,qc,q1,q5,bne,Ay];exact⟨_,rfl,⟨rfl,rfl,rfl⟩,1,rfl,by omega⟩
  have q1:(x.kind==1)=false:=by simp[k1]
  cases q2:(x.kind==2);rotate_left
  .simp only[go_sem,f1,Au,hx,qc,q1,q2];exact⟨_,rfl,⟨rfl,rfl,rfl⟩,1,rfl,by omega⟩
  cases q3:(x.kind==3);rotate_left
  .simp only[go_sem,f1,Au,hx,qc,q1,q2,q3];exact⟨_,rfl,⟨rfl,rfl,rfl⟩,_,rfl,fun _=>c⟩
  cases q4:(x.kind==4);rotate_left
  .simp only[go_sem,f1,Au,hx,qc,q1,q2,q3,q4];exact⟨_,rfl,⟨rfl,rfl,rfl⟩,_,rfl,fun _=>c⟩
  cases q5:(x.kind==5);rotate_left
  .simp only[go_sem,f1,Au,hx,qc,q1,q2,q3,q4,q5];exact⟨_,rfl,⟨rfl,rfl,rfl⟩,_,rfl,fun _=>c⟩
  cases q6:(x.kind==6)
  .simp only[go_sem,f1,Au,hx,qc,q1,q2,q3,q4,q5,q6];exact⟨_,rfl,⟨rfl,rfl,rfl⟩,_,rfl,fun _=>c⟩
  .simp only[go_sem,f1,Au,hx,qc,q1,q2,q3,q4,q5,q6];exact⟨_,rfl,⟨rfl,rfl,rfl⟩,_,rfl,fun _=>c⟩
 .rw[Ay6 c]at hd;simp only[go_sem];refine Ab hd AB ?_;simp only[go_sem,Int.reduceLT,Int.reduceNeg];refine Ab ht AB ?_;by_cases c3:0<=Bx (fun d:Tp=>d.nm==s) thrs
  .have f3:(0<=Bx (fun d:Tp=>d.nm==s) thrs)=True:=eq_true c3;simp only[go_sem,f3,ge_iff_le];exact⟨_,rfl,⟨rfl,rfl,rfl⟩,7,rfl,by omega⟩
  .have f3:(0<=Bx (fun d:Tp=>d.nm==s) thrs)=False:=eq_false c3;simp only[go_sem,f3,ge_iff_le];exact⟨_,rfl,⟨rfl,rfl,rfl⟩,0,rfl,by omega⟩
def O9{p:Gp}(hp:LnG p)(th:Int)(s:List UInt8)(a b:Int):∃ v,Fn TT PT 151 [.agg p.row,iV th,.str s,iV a,iV b] v/\∃ e:Int,v=iV e/\(a=5->b=5->e=0->0<=Bx (fun d:Dp=>d.nm==s) p.decls):=by
 obtain⟨_,hk,k,rfl,h5⟩:=Bfa hp th s;rw[Wb]at hk ⊢;refine Pe T151 rfl ?_;simp only[go_sem];refine Ab hk AB ?_;by_cases k0:k=0
 .have q0:(k==0)=true:=by simp[k0]
  simp only[go_sem,q0];exact⟨_,rfl,⟨rfl,rfl,rfl⟩,5,rfl,by omega⟩
 have q0:(k==0)=false:=by simp[k0]
 by_cases ka:k=a
 .have qa:(k==a)=true:=by simp[ka]
  simp only[go_sem,q0,qa,bne,Ay];exact⟨_,rfl,⟨rfl,rfl,rfl⟩,0,rfl,fun e _ _=>h5 AA⟩
 have qa:(k==a)=false:=by simp[ka]
 by_cases kb:k=b
 .have qb:(k==b)=true:=by simp[kb]
  simp only[go_sem,q0,qa,qb,bne,Ay,A1];exact⟨_,rfl,⟨rfl,rfl,rfl⟩,0,rfl,fun _ e _=>h5 AA⟩
 have qb:(k==b)=false:=by simp[kb]
 simp only[go_sem,q0,qa,qb,bne,Ay,A1];exact⟨_,rfl,⟨rfl,rfl,rfl⟩,6,rfl,by omega⟩
def Aui:∀ (N:Nat) (x:Xp),C3 x.row<=N->N<=1000000000->∃ v,Fn TT PT 183 [.agg x.row] v/\∃ n d:Int,v=.tup [iV n,iV d]
 | 0,x,h,_=>by grind[G8]
 | N+1,x,h,hN=>by
  have h1:=G8 x;have h2:=L9 (f:=Xp.row) (fun x=>by grind[G8]) x.l;have qd:(x.l.map Xp.row).length=x.l.length:=Ar ..;have hx:=Dw x;rw[Bi]at hx ⊢;refine Pe T183 rfl ?_;simp only[go_sem];refine Bk (α:=Nat × Int × Int) (fun a=>x.l.length - a.1) (fun a=>[(1,.ptr 0 0 0),(4,iV a.2.1),(5,iV a.2.2),(6,iV (a.1:Int))]) (fun _=>[xO x]) (fun a=>a.1<=x.l.length) ?_ (0,1,0) (Ax _);rintro⟨i,n,d⟩ hi ih;simp only at hi ih;refine Bd Bj9 ?_;rcases Bh i x.l.length with h' | h'
  .obtain⟨y,hy,-,hm⟩:=Br h';have hb:=J9 (f:=Xp.row) hm;obtain⟨_,hf,n',d',rfl⟩:=Aui N y AA AA;have qt:=Dw y;have ql:=Bi y;rw[ql]at hf qt;simp only[go_sem,qd,Az h',Au,hy,ql];refine Ab hf (by grind) ?_;simp only[go_sem,A2 (show i<9223372036854775807 by omega)];exact Av (ih (i+1,IntKind.i64.wrap (n+n'),max d d') AA h') rfl
  .simp only[go_sem,qd,Bl h'];exact⟨_,rfl,⟨rfl,rfl,rfl⟩,_,_,rfl⟩
def Auj{p:Gp}(hp:LnG p)(th:Int):∀ (N:Nat) (x:Xp),C3 x.row<=N->N<=1000000000->∃ v,Fn TT PT 184 [.agg p.row,iV th,.agg x.row] v/\∃ r:Int,v=iV r
 | 0,x,h,_=>by grind[G8]
 | N+1,x,h,hN=>by
  have h1:=G8 x;have h2:=L9 (f:=Xp.row) (fun x=>by grind[G8]) x.l;have qd:(x.l.map Xp.row).length=x.l.length:=Ar ..;have hx:=Dw x;have ih:∀ y∈x.l,∃ v,Fn TT PT 184 [.agg p.row,iV th,.agg y.row] v/\∃ r:Int,v=iV r:=fun y hy=>Auj hp th N y (by grind[J9]) AA
  obtain⟨_,w1,r1,rfl,-⟩:=O9 hp th x.nm 8 1;obtain⟨_,w2,r2,rfl,-⟩:=O9 hp th x.nm 2 2;rw[Bi]at hx ⊢;have qB:=Ahc p;rw[Wb]at ih w1 w2 qB ⊢;refine Pe T184 rfl ?_;refine F0 (fun e σ=>e=[(1,iV th),(3,.ptr 0 0 0),(5,.ptr 1 0 0)]/\σ=[gO p,xO x]) (fun k' hk=>?_) ?_
  .simp only[go_sem];exact hk _ _ ⟨rfl,rfl⟩
  rintro e σ ⟨rfl,rfl⟩;refine F0 (fun e σ=>e=[(1,iV th),(3,.ptr 0 0 0),(5,.ptr 1 0 0),(7,iV 0)]/\σ=[gO p,xO x]) (fun k' hk=>?_) ?_
  .simp only[go_sem];exact hk _ _ ⟨rfl,rfl⟩
  rintro e σ ⟨rfl,rfl⟩;refine F0 (fun e σ=>∃ (r:Int) (X:V),(e=[(1,iV th),(3,.ptr 0 0 0),(5,.ptr 1 0 0),(7,iV r)]\/e=[(1,iV th),(3,.ptr 0 0 0),(5,.ptr 1 0 0),(7,iV r),(10,X)])/\σ=[gO p,xO x]) (fun k' hk=>?_) ?_
  .by_cases o2:x.op=2
   .have q2:(x.op==2)=true:=by simp[o2]
    simp only[go_sem,q2];refine Ab w1 AB ?_;simp only[go_sem];exact hk _ _ ⟨_,_,.inr rfl,rfl⟩
   have q2:(x.op==2)=false:=by simp[o2]
   by_cases o3:x.op=3
   .have q3:(x.op==3)=true:=by simp[o3]
    simp only[go_sem,q2,q3];refine Ab w2 AB ?_;simp only[go_sem];exact hk _ _ ⟨_,.und,.inl rfl,rfl⟩
   have q3:(x.op==3)=false:=by simp[o3]
   simp only[go_sem,q2,q3];exact hk _ _ ⟨_,.und,.inl rfl,rfl⟩
  rintro e σ ⟨r,X,he,rfl⟩;rcases he with rfl | rfl
  all_goals
   simp only[go_sem];refine Bk (α:=Nat × Int) (fun a=>x.l.length - a.1) (fun a=>[(1,iV th),(3,.ptr 0 0 0),(5,.ptr 1 0 0),(7,iV a.2),(8,iV (a.1:Int))]) (fun _=>[gO p,xO x]) (fun a=>a.1<=x.l.length) ?_ (0,r) (Ax _);rintro⟨i,r⟩ hi jh;simp only at hi jh;refine Bd Bka ?_;rcases Bh i x.l.length with h' | h'
   .cases r0:(r==0)
    .simp only[go_sem,qd,Az h',r0];exact⟨_,rfl,⟨rfl,rfl,rfl⟩,_,rfl⟩
    .obtain⟨y,hy,-,hm⟩:=Br h';obtain⟨_,hf,r',rfl⟩:=ih y hm;have qt:=Dw y;have ql:=Bi y;rw[ql]at hf qt;simp only[go_sem,qd,Az h',r0];refine Af AD ?_;simp only[go_sem,qd,Au,hy,ql];refine Bf hf AB ?_;simp only[go_sem,A2 (show i<9223372036854775807 by omega)];exact Av (jh (i+1,r') AA h') rfl
   .simp only[go_sem,qd,Bl h'];exact⟨_,rfl,⟨rfl,rfl,rfl⟩,_,rfl⟩
def Auk{p:Gp}(hp:LnG p)(th:Int)(x:Xp)(h:C3 x.row<=1000000000):∃ v,Fn TT PT 152 [.agg p.row,iV th,.agg x.row] v/\∃ r:Int,v=iV r:=by
 have hs:=Age _ x h (Aj _);obtain⟨_,hn,n,d,rfl⟩:=Aui _ x h (Aj _);obtain⟨_,hm,r,rfl⟩:=Auj hp th _ x h (Aj _);have hx:=Dw x;have qB:=Ahc p;rw[Bi]at hx hs hn hm ⊢;rw[Wb]at hm qB ⊢;refine Pe T152 rfl ?_;cases b:Hv x
 .rw[b]at hs;simp only[go_sem];refine Ab hs (by grind) ?_;simp only[go_sem,A1];exact⟨_,rfl,⟨rfl,rfl,rfl⟩,_,rfl⟩
 rw[b]at hs;simp only[go_sem];refine Ab hs (by grind) ?_;simp only[go_sem,Ay];refine Ab hn (by grind) ?_;by_cases c1:24<n
 .have f1:((24:Int)<n)=True:=eq_true c1;simp only[go_sem,gt_iff_lt,f1];exact⟨_,rfl,⟨rfl,rfl,rfl⟩,_,rfl⟩
 have f1:((24:Int)<n)=False:=eq_false c1;by_cases c2:6<d
 .have f2:((6:Int)<d)=True:=eq_true c2;simp only[go_sem,gt_iff_lt,f1,f2];exact⟨_,rfl,⟨rfl,rfl,rfl⟩,_,rfl⟩
 have f2:((6:Int)<d)=False:=eq_false c2;simp only[go_sem,gt_iff_lt,f1,f2];refine Ab hm AB ?_;simp only[go_sem];exact⟨_,rfl,⟨rfl,rfl,rfl⟩,_,rfl⟩
def Hj(b:Bool):∃ v,Fn TT PT 153 [.bool b] v/\∃ r:Int,v=iV r:=by
 refine Pe T153 rfl ?_;cases b
 .simp only[go_sem];exact⟨_,rfl,⟨rfl,rfl,rfl⟩,_,rfl⟩
 .simp only[go_sem];exact⟨_,rfl,⟨rfl,rfl,rfl⟩,_,rfl⟩
def G9(a b:Int):∃ v,Fn TT PT 150 [iV a,iV b] v/\∃ r:Int,v=iV r:=by
 refine Pe T150 rfl ?_;cases h:(a==0)
 .simp only[go_sem,bne,h,A1];exact⟨_,rfl,⟨rfl,rfl,rfl⟩,_,rfl⟩
 .simp only[go_sem,bne,h,Ay];exact⟨_,rfl,⟨rfl,rfl,rfl⟩,_,rfl⟩
def Akv:∀ (N:Nat) (z:Bool) (t:Nat) (l:List Sp),Cy (l.map Sp.row)<=N->N<=1000000000->∃ v,Fn TT PT 68 [SL z t (l.map Sp.row)] v/\∃ n:Int,v=iV n
 | N,z,t,l,h,hN=>by
  have h2:=L9 (f:=Sp.row) (fun x=>by grind[N9]) l;have qd:(l.map Sp.row).length=l.length:=Ar ..;refine Pe T68 rfl ?_;simp only[go_sem,qd];refine Bk (α:=Nat × Int) (fun a=>l.length - a.1) (fun a=>[(0,SL z t (l.map Sp.row)),(3,iV a.2),(4,iV (a.1:Int))]) (fun _=>[]) (fun a=>a.1<=l.length) ?_ (0,_) (Ax _);rintro⟨i,n⟩ hi ih;simp only at hi ih;refine Bd Bpp ?_;rcases Bh i l.length with h' | h'
  .obtain⟨y,hy,-,hm⟩:=Br h';have hb:=J9 (f:=Sp.row) hm;have qS:=N9 y
   cases N with
   | zero=>omega
   | succ N=>
    obtain⟨_,hf,n1,rfl⟩:=Akv N y.bz y.bt y.body AA AA;obtain⟨_,hg,n2,rfl⟩:=Akv N y.ez y.et y.els AA AA;have qc:=Fl y;simp only[go_sem,qd,Az h'];refine Af AD ?_;simp only[go_sem,Au,hy,qc];refine Bf hf AB ?_;simp only[go_sem,Au,hy,qc];refine Bf hg AB ?_;simp only[go_sem,A2 (show i<9223372036854775807 by omega)];exact Av (ih (i+1,_) AA h') rfl
  .simp only[go_sem,qd,Bl h'];exact⟨_,rfl,⟨rfl,rfl,rfl⟩,_,rfl⟩
structure WK (σ:St) (w:Nat) (p:Gp) (th:Int) (uA uS uT:V) (A S T:List (List V)):Prop where
 row:σ[w]?=some (Fa p th uA uS uT)
 a:GS σ 11 98 uA A
 s:GS σ 1 9 uS S
 t:GS σ 1 9 uT T
 ad:∀ j∈uA.refs,j≠w/\j ∉ uS.refs/\j ∉ uT.refs
 sd:∀ j∈uS.refs,j≠w/\j ∉ uT.refs
 td:∀ j∈uT.refs,j≠w
 cl:Cl σ
theorem O4(z:Bool)(t:Nat)(l:List (List V)):(SL z t l).refs=[]:=by
 unfold SL
 split<;>rfl
theorem Alw(p:Gp)(th:Int)(uA uS uT:V):Ag (wkR p th uA uS uT)=uA.refs++(uS.refs++uT.refs):=by
 simp[Ag,O4,V.refs]
def Ub{σ:St}{w:Nat}{p:Gp}{th:Int}{uA uS uT:V}{A S T:List (List V)}(h:WK σ w p th uA uS uT A S T):w<σ.length:=(Ao.1 h.row).1
def Uc{σ:St}{w:Nat}{p:Gp}{th:Int}{uA uS uT:V}{A S T:List (List V)}(h:WK σ w p th uA uS uT A S T):fp σ w=w::(uA.refs++(uS.refs++uT.refs)):=by
 rw[Amg h.row,Alw]
theorem Aw7{σ:St}{w:Nat}{p:Gp}{th:Int}{uA uS uT:V}{A S T:List (List V)}(h:WK σ w p th uA uS uT A S T)(l:St)(hc:Cl (σ++l)):WK (σ++l) w p th uA uS uT A S T:=by
 have k:∀ i,i<σ.length->(σ++l)[i]?=σ[i]?:=fun i hi=>Es hi
 exact⟨by rw[k w (Ub h)];exact h.row,Ig h.a fun i hi=>k i (Cz h.a i hi),Ig h.s fun i hi=>k i (Cz h.s i hi),Ig h.t fun i hi=>k i (Cz h.t i hi),h.ad,h.sd,h.td,hc⟩
def Abk{σ σ2:St}{w:Nat}{p:Gp}{th th':Int}{uA uS uT vA vS vT:V}{A S T A' S' T':List (List V)}(h:WK σ w p th uA uS uT A S T)(hl:σ.length<=σ2.length)(hB:∀ j,j<σ.length->j ∉ uA.refs->j ∉ uS.refs->j ∉ uT.refs->σ2[j]?=σ[j]?)
  (ga:GS σ2 11 98 vA A') (gs:GS σ2 1 9 vS S') (gt:GS σ2 1 9 vT T') (rA:∀ j∈vA.refs,j∈uA.refs\/σ.length<=j) (rS:∀ j∈vS.refs,j∈uS.refs\/σ.length<=j) (rT:∀ j∈vT.refs,j∈uT.refs\/σ.length<=j)
  (d1:∀ j∈vA.refs,j ∉ vS.refs/\j ∉ vT.refs) (d2:∀ j∈vS.refs,j ∉ vT.refs) (hc:Cl σ2) :
  WK (σ2.set w (Fa p th' vA vS vT)) w p th' vA vS vT A' S' T'/\FW w σ (σ2.set w (Fa p th' vA vS vT)):=by
 have hw:=Ub h
 have nA:∀ j∈vA.refs,j≠w:=fun j hj e=>by
  rcases rA j hj with h2 | h2
  .exact(h.ad j h2).1 e
  .omega
 have nS:∀ j∈vS.refs,j≠w:=fun j hj e=>by
  rcases rS j hj with h2 | h2
  .exact(h.sd j h2).1 e
  .omega
 have nT:∀ j∈vT.refs,j≠w:=fun j hj e=>by
  rcases rT j hj with h2 | h2
  .exact h.td j h2 e
  .omega
 have ks:∀ (X:Ob) (j:Nat),j≠w->(σ2.set w X)[j]?=σ2[j]?:=fun X j hj=>Ce (Ne.symm hj)
 refine⟨⟨Cr AA,Ig ga fun i hi=>ks _ i (nA i hi),Ig gs fun i hi=>ks _ i (nS i hi),Ig gt fun i hi=>ks _ i (nT i hi),fun j hj=>⟨nA j hj,d1 j hj⟩,fun j hj=>⟨nS j hj,d2 j hj⟩,nT,F9 hc ?_⟩,?_⟩
 .grind[Ob.refs,Alw,Cz]
 .have hf:=Uc h;refine Amh (τ:=σ2) ⟨hl,fun j hj hn=>?_,fun j hj=>?_⟩ hw fun j hj=>?_
  .grind
  .rw[hf];have e2:σ2[w]?=σ[w]?:=hB w hw (fun e=>(h.ad w e).1 rfl) (fun e=>(h.sd w e).1 rfl) (fun e=>h.td w e rfl)
   grind[fp]
  grind[Alw]
def A0p{σ σ2:St}{w:Nat}{p:Gp}{th:Int}{uA uS uT:V}{A S T:List (List V)}(h:WK σ w p th uA uS uT A S T)(hB:∀ j,j<σ.length->j ∉ uA.refs->j ∉ uS.refs->j ∉ uT.refs->σ2[j]?=σ[j]?):σ2[w]?=some (Fa p th uA uS uT):=by
 rw[hB w (Ub h) (fun e=>(h.ad w e).1 rfl) (fun e=>(h.sd w e).1 rfl) (fun e=>h.td w e rfl)];exact h.row
def Bsb{σ:St}{w:Nat}{p:Gp}{th:Int}{uA uS uT:V}{A S T:List (List V)}(h:WK σ w p th uA uS uT A S T)(nm:List UInt8)(hb:S.length<=1000000000):∃ u' σ2,Dt 16 (1,9) uS (.lst 1 [[.str nm]]) σ=some (u',σ2)/\u'.cellB=true/\σ2[w]?=some (Fa p th uA uS uT) /\
  WK (σ2.set w (Fa p th uA u' uT)) w p th uA u' uT A (S++[[.str nm]]) T/\FW w σ (σ2.set w (Fa p th uA u' uT)):=by
 obtain⟨u',σ2,e1,g,hl,hk,hr,hc⟩:=Xt (bytes:=16) (row:=[.str nm]) h.s AA rfl rfl AA;have hB:∀ j,j<σ.length->j ∉ uA.refs->j ∉ uS.refs->j ∉ uT.refs->σ2[j]?=σ[j]?:=fun j hj _ h2 _=>hk j hj h2
 have nn:∀ j,j<σ.length->j ∉ uS.refs->j ∉ u'.refs:=fun j hj h1 h2=>by
  grind
 exact⟨u',σ2,e1,Kz g,A0p h hB,Abk h hl hB (Ig h.a fun i hi=>hk i (Cz h.a i hi) (h.ad i hi).2.1) g (Ig h.t fun i hi=>hk i (Cz h.t i hi) fun e=>(h.sd i e).2 hi) (fun j hj=>.inl hj) hr (fun j hj=>.inl hj)
  (fun j hj=>⟨nn j (Cz h.a j hj) (h.ad j hj).2.1,(h.ad j hj).2.2⟩) (fun j hj ht=>nn j (Cz h.t j ht) (fun e=>(h.sd j e).2 ht) hj) (hc h.cl)⟩
def Y2{σ:St}{w:Nat}{p:Gp}{th:Int}{uA uS uT:V}{A S T:List (List V)}(h:WK σ w p th uA uS uT A S T)(nm:List UInt8)(hb:T.length<=1000000000):∃ u' σ2,Dt 16 (1,9) uT (.lst 1 [[.str nm]]) σ=some (u',σ2)/\u'.cellB=true/\σ2[w]?=some (Fa p th uA uS uT) /\
  WK (σ2.set w (Fa p th uA uS u')) w p th uA uS u' A S (T++[[.str nm]])/\FW w σ (σ2.set w (Fa p th uA uS u')):=by
 obtain⟨u',σ2,e1,g,hl,hk,hr,hc⟩:=Xt (bytes:=16) (row:=[.str nm]) h.t AA rfl rfl AA;have hB:∀ j,j<σ.length->j ∉ uA.refs->j ∉ uS.refs->j ∉ uT.refs->σ2[j]?=σ[j]?:=fun j hj _ _ h2=>hk j hj h2
 have nn:∀ j,j<σ.length->j ∉ uT.refs->j ∉ u'.refs:=fun j hj h1 h2=>by
  grind
 exact⟨u',σ2,e1,Kz g,A0p h hB,Abk h hl hB (Ig h.a fun i hi=>hk i (Cz h.a i hi) (h.ad i hi).2.2) (Ig h.s fun i hi=>hk i (Cz h.s i hi) (h.sd i hi).2) g (fun j hj=>.inl hj) (fun j hj=>.inl hj) hr
  (fun j hj=>⟨(h.ad j hj).2.1,nn j (Cz h.a j hj) (h.ad j hj).2.2⟩) (fun j hj=>nn j (Cz h.s j hj) (h.sd j hj).2) (hc h.cl)⟩
def Ay7{R:V->Prop}{f p:Nat}{res:List AR}{body:AC}{vs:List V}{σ:St}(hT:TT f=some ⟨p,res,true,body,none⟩)(hl:vs.length=p)(h:W TT PT [.c body] (C4 0 vs) σ (Hd fun e' σ1=>∃ v,Cd e' σ1 res=some v/\(Ci v=true/\v.refs=[])/\(∃ l,σ1=σ++l)/\R v)):∃ v,Th TT PT f vs σ v σ/\R v:=by
 obtain⟨e',_,hE,v,hr,⟨h1,h2⟩,⟨l,rfl⟩,h3⟩:=h;exact⟨v,As2 hT rfl rfl hl ⟨e',_,hE,hr,⟨h1,by rw[h2];rfl,fun i ob hi ho=>.inl (by grind)⟩,by grind⟩,h3⟩
def Alx{R:V->St->Prop}{f p:Nat}{res:List AR}{body:AC}{vs:List V}{σ:St}(hT:TT f=some ⟨p,res,true,body,none⟩)(hl:vs.length=p)(h:W TT PT [.c body] (C4 0 vs) σ (Hd fun e' σ1=>∃ v,Cd e' σ1 res=some v/\(Ci v=true/\v.refs=[])/\(σ.length<=σ1.length/\Cl σ1)/\R v σ1)):∃ v σ',Th TT PT f vs σ v σ'/\R v σ':=by
 obtain⟨e',σ1,hE,v,hr,⟨h1,h2⟩,⟨h3,h4⟩,h5⟩:=h;exact⟨v,σ1,Af1 hT hl ⟨e',σ1,hE,hr,rfl⟩ h2 h1 h3 h4,h5⟩
def A0q{m j g off len i:Nat}{w:Bool}{k:IntKind}(h:i<len):Mr m (.sl j g off len m w) (.int k (i:Int))=some (.ptr j g (off+i*m)):=by
 simp_all [Mr]
set_option maxHeartbeats 1000000 in
def Rc{σ:St}{w:Nat}{p:Gp}{th:Int}{uA uS uT:V}{X:List Sp}{S T:List (List V)}(h:WK σ w p th uA uS uT (X.map Sp.row) S T)(hX:X.length<=1000000000)(a b:Int)(nm:List UInt8):∃ v,Th TT PT 149 [.ptr w 0 0,iV a,iV b,.str nm] σ v σ/\∃ z,v=.bool z:=by
 have qd:=Abe h.a;have n1:(X.map Sp.row).length=X.length:=Ar ..;rw[n1]at qd;refine Ay7 T149 rfl ?_;simp only[go_sem];refine Bk (α:=Nat × St) (fun a=>X.length - a.1) (fun x=>[(0,.ptr w 0 0),(1,iV a),(2,iV b),(3,.str nm),(9,iV (x.1:Int))]) (fun x=>x.2) (fun x=>x.1<=X.length/\∃ l,x.2=σ++l) ?_ (0,σ) ⟨Ax _,[],by simp⟩;rintro⟨i,_⟩ ⟨hi,l,rfl⟩ ih;simp only at hi ih;have hr:=By (l:=l) h.row;refine Bd Bj5 ?_;rcases Bh i X.length with h' | h'
 .obtain⟨x,hx,-,-⟩:=Br h';obtain⟨j,g,cs,rfl,ho,hb,qc⟩:=Bjd (i:=i) (row:=x.row) h.a (by grind);rw[n1]at hr qd;have hj:=By (l:=l) ho
  have qD:Mv (σ++l)[j]? g 11 false (i*11)=some (.agg x.row):=by
   rw[hj];simp only[Mv];rw[if_pos ⟨trivial,by omega⟩,qc];rfl
  have qk:=Hc x;have qj:=Fl x;rw[qj]at qD qk
  cases qa:(x.op==a)<;>cases qb:(x.op==b)<;>cases qn:(nm==[])<;>cases qx:(x.nm==nm)
  all_goals
   simp only[go_sem,hr,qd,Az h',A0q h',qD,qa,qb,qn,qx,A2 (show i<9223372036854775807 by omega)]
   first
    | exact⟨_,rfl,⟨rfl,rfl⟩,⟨_,rfl⟩,_,rfl⟩
    | exact Av (ih (i+1,_) AA ⟨h',_,rfl⟩) rfl
 .simp only[go_sem,hr,qd,Bl h'];exact⟨_,rfl,⟨rfl,rfl⟩,⟨_,rfl⟩,_,rfl⟩
structure MKr (σ:St) (m b:Nat) (uH:V) (H:List (List UInt8)):Prop where
 row:∃ (th left:Int) (se tx ao lp:Bool),σ[m]?=some (mO b th left se tx ao lp uH)
 tape:TS σ b
 ne:m≠b
 h:GS σ 1 9 uH (H.map fun x=>[V.str x])
 hd:∀ j∈uH.refs,j≠m/\j≠b
 cl:Cl σ
theorem Mm{σ:St}{m b:Nat}{uH:V}{H:List (List UInt8)}(h:MKr σ m b uH H):m<σ.length:=by
 obtain⟨_,_,_,_,_,_,hr⟩:=h.row
 grind
def H6{σ:St}{m b:Nat}{uH:V}{H:List (List UInt8)}(h:MKr σ m b uH H):fp σ m=m::(b::uH.refs):=by
 obtain⟨_,_,_,_,_,_,hr⟩:=h.row;rw[Amg hr];simp[Ag,V.refs]
def Rt{σ τ:St}{m b:Nat}{uH:V}{H:List (List UInt8)}(h:MKr σ m b uH H)(hc:Cl τ)(hm:τ[m]?=σ[m]?)(hb:TS τ b)(hk:∀ i∈uH.refs,τ[i]?=σ[i]?):MKr τ m b uH H:=by
 obtain⟨a1,a2,a3,a4,a5,a6,hr⟩:=h.row;exact⟨⟨a1,a2,a3,a4,a5,a6,by grind⟩,hb,h.ne,Ig h.h hk,h.hd,hc⟩
def Afk{σ:St}{m b:Nat}{uH:V}{H:List (List UInt8)}(h:MKr σ m b uH H)(l:St)(hc:Cl (σ++l)):MKr (σ++l) m b uH H/\FW m σ (σ++l):=
 ⟨Rt h hc (Es (Mm h)) (Be6 h.tape) fun i hi=>Es (Cz h.h i hi),Alj _ (Mm h)⟩
def Bfb{σ τ:St}{b:Nat}(hc:Cl σ)(hw:TW σ τ b)(hl:τ.length=σ.length):Cl τ:=by
 intro ob hm j hj;obtain⟨i,hi,rfl⟩:=Ou hm;by_cases hb:i=b
 .subst hb;obtain⟨z,t,l,a,h1,-⟩:=hw.2.2.1
  grind[Aqo]
 .have h2:=hw.2.1 i AA hb;rw[B9 hi,B9 AA]at h2;rw[M5 h2]at hj;rw[hl];exact hc _ (M4 _) j hj
def Rj{σ:St}{m b:Nat}{uH:V}{H:List (List UInt8)}(h:MKr σ m b uH H)(n:Nat)(N:Int)(hN:N=n)(hn:n<=1000000000):∃ (r:Nat) (σ':St),Bw TT PT 34 [.ptr b 0 0,iV N] σ (iV (r:Int)) σ'/\MKr σ' m b uH H/\FW m σ σ'/\σ'.length=σ.length/\(r<n\/r=0)/\σ'[m]?=σ[m]?:=by
 subst hN;obtain⟨r,σ',h1,h2,h3,h4,-,-⟩:=Aug h.tape n hn;have hf:=H6 h;have km:=h2.2.1 m (Mm h) h.ne;refine⟨r,σ',h1,Rt h (Bfb h.cl h2 h3) km h2.2.2.1 fun i hi=>h2.2.1 i (Cz h.h i hi) (h.hd i hi).2,⟨by omega,fun j hj hn=>h2.2.1 j hj fun e=>hn (by grind),fun j hj=>?_⟩,h3,h4,km⟩
 grind[fp]
def Ay8{σ:St}{m b:Nat}{uH:V}{H:List (List UInt8)}(h:MKr σ m b uH H)(th left:Int)(se tx ao lp:Bool):MKr (σ.set m (mO b th left se tx ao lp uH)) m b uH H/\FW m σ (σ.set m (mO b th left se tx ao lp uH)):=by
 have hm:=Mm h;have hf:=H6 h;have qe:Ag [.ptr b 0 0,iV th,iV left,.bool se,.bool tx,.bool ao,.bool lp,uH]=b::uH.refs:=by simp[Ag,V.refs]
 refine⟨⟨⟨th,left,se,tx,ao,lp,Cr hm⟩,?_,h.ne,Ig h.h fun i hi=>Ce (Ne.symm (h.hd i hi).1),h.hd,F9 h.cl fun i hi=>?_⟩,Amh (Ali _ _) hm fun j hj=>?_⟩
 .obtain⟨z,t,l,a,h1,h2⟩:=h.tape;exact⟨z,t,l,a,by rw[Ce h.ne];exact h1,h2⟩
 .simp only[Ob.refs,qe,Bp]at hi;rcases hi with rfl | hi
  .exact Pm h.tape
  .exact Cz h.h i hi
 grind
def Agh{σ τ:St}{m b:Nat}{uH:V}{H:List (List UInt8)}{j:Nat}(h:MKr σ m b uH H)(hj:σ.length<=j):j ∉ fp σ m:=fun hm=>by
 rw[H6 h]at hm;simp only[Bp]at hm;rcases hm with rfl | rfl | hm
 .have:=Mm h;omega
 .have:=Pm h.tape;omega
 .have:=Cz h.h j hm;omega
def Ji{σ τ:St}{m j:Nat}{x:Ob}(hw:FW m σ τ)(hj:σ[j]?=some x)(hn:j ∉ fp σ m):τ[j]?=some x/\j ∉ fp τ m:=by
 have hl:=(Ao.1 hj).1;refine⟨by rw[hw.2.1 j hl hn];exact hj,fun hm=>?_⟩;rcases hw.2.2 j hm with h2 | h2
 .grind
 .omega
def Agi{T:Nat->Option AF}{pr:Nat->Option (List V->Option V)}{f:Nat}{vs:List V}{σ σ':St}{v:V}(h:Th T pr f vs σ v σ'):Bw T pr f vs σ v σ':=
 let ⟨F,h1,_,h2,h3⟩:=h
 ⟨F,h1,h2,h3⟩
def A6j{j:Nat}(hj:j<6):∃ op:Int,([[iV 6],[iV 7],[iV 8],[iV 11],[iV 13],[iV 17]]:List (List V))[j]?=some [iV op]/\(6<=op/\op<=18):=by
 rcases(show j=0\/j=1\/j=2\/j=3\/j=4\/j=5 by omega) with rfl | rfl | rfl | rfl | rfl | rfl
 .simp_all
 .simp_all
 .simp_all
 .simp_all
 .simp_all
 simp_all
def Bfc(n:Int):Fn TT PT 38 [iV n] (.agg (Xp.row ⟨1,n,[],true,0,[]⟩)):=by
 refine Bg T38 rfl ?_;simp only[go_sem];exact Fw rfl
def Ahd(nm:List UInt8):Fn TT PT 108 [.str nm] (.agg [iV 2,iV 0,.str nm,.nils]):=by
 have h:=Baa nm;rw[Bi]at h;exact h
def Ahx(n:Int):Fn TT PT 38 [iV n] (.agg [iV 1,iV n,.str [],.nils]):=by
 have h:=Bfc n;rw[Bi]at h;exact h
def Pw:Nat->Nat
 | 0=>12
 | d+1=>2*Pw d+12
def MX(d:Nat)(x:Xp):Prop:=ShE x/\x.txt.length<=EB d/\C3 x.row<=Pw d
def MXp(d m b:Nat)(uH:V)(H:List (List UInt8))(σ:St):Prop:=∃ v σ',Th TT PT 106 [.ptr m 0 0,iV (d:Int)] σ v σ'/\(∃ x:Xp,v=.agg x.row/\MX d x)/\MKr σ' m b uH H/\FW m σ σ'
theorem Agj(d:Nat):12<=Pw d:=by
 cases d<;>simp[Pw]
def Aul{d:Nat}(h:d≠0):Pw d=2*Pw (d - 1)+12:=by
 cases d with
 | zero=>omega
 | succ d=>rfl
def Aqq{d:Nat}(hd:d<=5)(ih:∀ d',d≠0->d'<=d - 1->∀ σ m b uH H,MKr σ m b uH H->MXp d' m b uH H σ){σ:St}{m b:Nat}{uH:V}{H:List (List UInt8)}(h:MKr σ m b uH H):MXp d m b uH H σ:=by
 have qr:=Mm h
 suffices hh:∃ v σ',Th TT PT 106 [.ptr m 0 0,iV (d:Int)] σ v σ'/\((∃ x:Xp,v=.agg x.row/\MX d x)/\MKr σ' m b uH H/\FW m σ σ') from hh
 refine Alx T106 rfl ?_;have z0:Cl (σ++[zY]):=Jl h.cl rfl;obtain⟨s1,e1⟩:∃ s1:St,s1=σ++[zY]:=⟨_,rfl⟩;obtain⟨h1,w1⟩:=Afk h [zY] z0;rw[<-e1]at h1 w1;have k1:s1[σ.length]?=some zY:=by rw[e1];simp
 have n1:σ.length ∉ fp s1 m:=fun hm=>by
  rw[H6 h1,<-H6 h]at hm;exact Agh (τ:=σ) h (Aj _) hm
 obtain⟨_,_,_,_,_,_,m1⟩:=h1.row;obtain⟨k,s2,q2,h2,w2,l2,r2,m2⟩:=Rj h1 10 10 rfl AA;have hk:k<10:=by omega
 obtain⟨k2,n2⟩:=Ji w2 k1 n1;rw[m1]at m2;have qW:=m2;have qw:=Fv w1 w2;rw[e1]at q2 m1
 have qi:∀ (e:Env) (s:St) (x:Xp),e.get 4=.ptr σ.length 0 0->MX d x->MKr s m b uH H->FW m σ s->s[σ.length]?=some zY->σ.length ∉ fp s m ->
   ∃ v,Cd e (s.set σ.length (.row x.row 96 0 0)) [.cell 4 4 false]=some v/\(Ci v=true/\v.refs=[])/\(σ.length<=(s.set σ.length (.row x.row 96 0 0)).length/\Cl (s.set σ.length (.row x.row 96 0 0)))/\((∃ x:Xp,v=.agg x.row/\MX d x)/\MKr (s.set σ.length (.row x.row 96 0 0)) m b uH H/\FW m σ (s.set σ.length (.row x.row 96 0 0))):=fun e s x he hx hs hw hk hn=>by
  have hl:=(Ao.1 hk).1;have hc:Cl (s.set σ.length (.row x.row 96 0 0)):=F9 hs.cl (by simp only[Ob.refs,Zx (Dw x)];simp);rw[H6 hs]at hn;simp only[Bp,not_or]at hn;refine⟨.agg x.row,Wh (Cr hl) he (A9k x),Bkw (Dw x),⟨by grind,hc⟩,⟨x,rfl,hx⟩,Rt hs hc (Ce hn.1) ?_ (fun i hi=>Ce fun(e:σ.length=i)=>hn.2.2 (by grind)),Ayi hw (Aj _) qr⟩;obtain⟨z,t,l,a,h1,h2⟩:=hs.tape;exact⟨z,t,l,a,by grind,h2⟩
 simp only[go_sem,m1];refine Aa q2 ?_;have qp:(k<2\/(¬ k<2/\d=0/\7<=k))\/(2<=k/\k<7)\/(d≠0/\k=7)\/(d≠0/\8<=k):=by omega
 rcases qp with hA | hB | hC | hD
 .obtain⟨j,s3,q3,h3,w3,l3,r3,m3⟩:=Rj h2 4 4 rfl AA;obtain⟨k3,n3⟩:=Ji w3 k2 n2;rcases hA with h4 | ⟨h4,h0,qF⟩
  case' inl=>have f1:((k:Int)<2)=True:=eq_true AA
  case' inr=>have f1:((k:Int)<2)=False:=eq_false AA
  case' inr=>have f2:((d:Int)==0)=true:=by simp[h0]
  case' inr=>have f3:((7:Int)<=(k:Int))=True:=eq_true AA
  case' inl=>simp only[go_sem,m2,f1]
  case' inr=>simp only[go_sem,m2,f1,f2,f3,ge_iff_le]
  all_goals
   refine Aa q3 ?_;simp only[go_sem];refine Ab (Ahx _) rfl ?_;simp only[go_sem,k3];have qf:Xp.row ⟨1,j,[],true,0,[]⟩=[iV 1,iV (j:Int),.str [],.nils]:=by rw[Bi];rfl
   rw[<-qf];refine qi _ s3 ⟨1,j,[],true,0,[]⟩ AK ⟨.num AA,?_,?_⟩ h3 (Fv qw w3) k3 n3
   .rw[Ei];have:=Xv (j:Int);have:=Ahb d;simp only[Dr,if_true];omega
   grind[G8,Agj,Cy]
 .obtain⟨j,s3,q3,h3,w3,l3,r3,m3⟩:=Rj h2 7 7 rfl AA;obtain⟨k3,n3⟩:=Ji w3 k2 n2;obtain⟨nm,hn,qA⟩:=Aag [[97],[98],[120],[121],[118],[120],[121]] AD (j:=j) (by grind);simp only[Aw,B0]at hn;have f1:((k:Int)<2)=False:=eq_false AA;have f4:((k:Int)<7)=True:=eq_true AA;have f3:((7:Int)<=(k:Int))=False:=eq_false AA;cases f2:((d:Int)==0)
  all_goals
   simp only[go_sem,m2,f1,f2,f3,f4,ge_iff_le];refine Aa q3 ?_;simp only[go_sem,hn];refine Ab (Ahd nm) rfl ?_;simp only[go_sem,k3];have qf:Xp.row ⟨2,0,nm,true,0,[]⟩=[iV 2,iV 0,.str nm,.nils]:=by rw[Bi];rfl
   rw[<-qf];refine qi _ s3 ⟨2,0,nm,true,0,[]⟩ AK ⟨.name qA.1,?_,?_⟩ h3 (Fv qw w3) k3 n3
   .rw[Ei];have:=Ahb d;have:=qA.2;simp only[Dr,show((2:Int)=1)=False from eq_false AA,if_false,if_true];omega
   .rw[G8];have:=Agj d;have:=qA.2
    grind[Cy]
 .obtain⟨qg,rfl⟩:=hC;obtain⟨_,s3,q3,⟨x,rfl,hx⟩,h3,w3⟩:=ih 0 qg AA s2 m b uH H h2;obtain⟨k3,n3⟩:=Ji w3 k2 n2;rw[show(((0:Nat):Int))=0 from rfl]at q3;have f2:((d:Int)==0)=false:=by simp[qg]
  have qk:=Dw x;have qo:=Bi x;rw[qo]at q3 qk;simp only[go_sem,m2,f2,C2,Int.reduceBEq,Int.reduceLT];refine Ca q3 ?_;simp only[go_sem,k3];have qf:Xp.row ⟨3,0,[113],true,1,[x]⟩=[iV 3,iV 0,.str [113],.lst 1 [(xR x)]]:=by rw[Bi];simp only[Aw,B0,qo];rfl
  rw[<-qf];refine qi _ s3 ⟨3,0,[113],true,1,[x]⟩ AK ⟨.idx AD hx.1,?_,?_⟩ h3 (Fv qw w3) k3 n3
  .rw[Ei];have:=Aw5 qg;have:=hx.2.1
   grind[EB,Ahb,Dr]
  .rw[G8];have:=Aul qg;have:=hx.2.2
   grind[Pw,Agj,Cy]
 .obtain⟨qg,h8⟩:=hD;obtain⟨j,s3,q3,h3,w3,l3,r3,m3⟩:=Rj h2 6 6 rfl AA;obtain⟨k3,n3⟩:=Ji w3 k2 n2;obtain⟨op,ho,qU⟩:=A6j (j:=j) AA;obtain⟨_,s4,q4,⟨x,rfl,hx⟩,h4,w4⟩:=ih (d - 1) qg AA s3 m b uH H h3;obtain⟨k4,n4⟩:=Ji w4 k3 n3;obtain⟨_,s5,q5,⟨y,rfl,hy⟩,h5,w5⟩:=ih (d - 1) qg AA s4 m b uH H h4;obtain⟨k5,n5⟩:=Ji w5 k4 n4;have f1:((k:Int)<2)=False:=eq_false AA;have f2:((d:Int)==0)=false:=by simp[qg]
  have f4:((k:Int)<7)=False:=eq_false AA;have f5:((k:Int)==7)=false:=by simp;omega
  have e3:IntKind.i64.wrap ((d:Int) - 1)=((d - 1:Nat):Int):=by rw[Cm AA];omega
  have qv:=Aw4 op x y;have qk:=Dw x;have qt:=Dw y;have qo:=Bi x;have ql:=Bi y;have qf:Xp.row ⟨op,0,[],true,1,[x,y]⟩=[iV op,iV 0,.str [],.lst 1 [x.row,y.row]]:=by rw[Bi];rfl
  have qV:=qf;rw[qf]at qv;rw[qo]at q4 qk qv qf;rw[ql]at q5 qt qv qf;simp only[go_sem,m2,f1,f2,f4,f5];refine Af AD ?_;simp only[go_sem,m2];refine Ia q3 ?_;simp only[go_sem,ho];refine wgR ?_;simp only[go_sem,e3];refine Ia (Agi q4) ?_;simp only[go_sem,e3];refine Ia (Agi q5) ?_;simp only[go_sem];refine Bf qv AB ?_;simp only[go_sem,k5];refine Bb ?_;simp only[go_sem];rw[<-qf];refine qi _ s5 ⟨op,0,[],true,1,[x,y]⟩ AK ⟨.bin AA hx.1 hy.1,?_,?_⟩ h5 (Fv qw (Fv w3 (Fv w4 w5))) k5 n5
  .rw[Ei];have:=Aw5 qg;have h2:=(O7 (x.op,x.txt) (Gi op)).2;have qG:=(O7 (y.op,y.txt) (Be op+1)).2;simp only at h2 qG;have h3:(Bz op).length<=2:=Aw6 _
   have h0:Dr op 0 [] [(x.op,x.txt),(y.op,y.txt)]=Dg (x.op,x.txt) (Gi op)++32::(Bz op++32::Dg (y.op,y.txt) (Be op+1)):=by
    unfold Dr;rw[if_neg AA,if_neg AA]
   have:=hx.2.1;have:=hy.2.1
   grind
  .rw[G8];have:=Aul qg;have:=hx.2.2;have:=hy.2.2
   grind[Cy]
def Aum:∀ (d:Nat),d<=5->∀ (d':Nat),d'<=d->∀ (σ:St) (m b:Nat) (uH:V) (H:List (List UInt8)),MKr σ m b uH H->MXp d' m b uH H σ
 | 0,hd,d',hd',σ,m,b,uH,H,h=>by
  obtain rfl:d'=0:=by omega
  exact Aqq hd (fun _ h0 _=>absurd rfl h0) h
 | d+1,hd,d',hd',σ,m,b,uH,H,h=>Aqq AA (fun d2 h0 h2 σ m b uH H h=>Aum d AA d2 AA σ m b uH H h) h
def A6k:((List.range 256).all fun i=>match (Lp (Oj TT PT 300) af92 [.int .u8 (i:Int)] []).bind fun p=>Ed p.2 p.1 with
  | some (.bool b)=>b==K6 i
  | _=>false)=true:=by kernel_rfl
def P3(c:UInt8):Fn TT PT 92 [.int .u8 (c.toNat:Int)] (.bool (Gw c)):=by
 have hr:=Bu.1 A6k c.toNat (Eg.2 c.toNat_lt)
 split at hr
 .rename_i b hv;rw[show Gw c=b from(beq_iff_eq.1 hr).symm];exact Rh Sf T92 rfl rfl hv
 .cases hr
def A6l:((List.range 256).all fun i=>match (Lp (Oj TT PT 300) af94 [.int .u8 (i:Int)] []).bind fun p=>Ed p.2 p.1 with
  | some (.bool b)=>b==Ms i
  | _=>false)=true:=by kernel_rfl
def S3(c:UInt8):Fn TT PT 94 [.int .u8 (c.toNat:Int)] (.bool (Du c)):=by
 have hr:=Bu.1 A6l c.toNat (Eg.2 c.toNat_lt)
 split at hr
 .rename_i b hv;rw[show Du c=b from(beq_iff_eq.1 hr).symm];exact Rh Sf T94 rfl rfl hv
 .cases hr
def Ab3{p:UInt8->Bool}:∀ l:List UInt8,(∀ i,i<(l.takeWhile p).length->∃ x,l[i]?=some x/\p x=true)/\((l.takeWhile p).length<l.length->∃ x,l[(l.takeWhile p).length]?=some x/\p x=false)/\(l.takeWhile p).length<=l.length/\l.take (l.takeWhile p).length=l.takeWhile p
 | []=>⟨fun i h=>by simp at h,fun h=>by simp at h,by simp,rfl⟩
 | c::l=>by
  obtain⟨h1,h2,h3,h4⟩:=Ab3 (p:=p) l;rw[Wu];by_cases hc:p c=true
  .rw[if_pos hc];refine⟨fun i hi=>?_,fun h=>?_,by grind,by simp[h4]⟩
   .cases i with
    | zero=>grind
    | succ i=>simp_all
   grind
  grind
def Hk{vs:List V}{σ:St}{v:V}(h:vs.all Da=true)(he:V.tup vs=v):FR (.tup vs) σ v:=he ▸ Gt h
def Ud(c:UInt8)(n:Nat)(hn:n<256):(((c.toNat:Int))==(n:Int))=(c==UInt8.ofNat n):=by
 by_cases h:c=UInt8.ofNat n
 .simp_all [Ain]
 .have:(c.toNat:Int)≠n:=fun e=>h (by
   have:c.toNat=n:=by omega
   exact UInt8.toNat_inj.1 (by simp_all [Ain]))
  grind
def Ay9(c:UInt8):H7 c=(Gw c||(Du c||c==95)):=by
 unfold H7 Lw Gw Du;congr 2;have:=Ud c 95 AG
 grind
def nn(i:Nat):(0<=(i:Int))=True:=eq_true (Ze i)
def A0r(s:List UInt8)(i:Nat)(h:i<=s.length):Ul (.str s) none (some (iV (i:Int)))=some (.str (s.take i)):=by
 rw[show Ul (.str s) none (some (iV (i:Int)))=(Dy none 0).bind fun a=>(Dy (some (iV (i:Int))) s.length).bind fun b=>if a<=b/\b<=s.length then some (V.str ((s.take b).drop a)) else none from rfl]
 simp_all [Dy]
set_option maxHeartbeats 2000000 in
def Bfd(c:UInt8)(r:List UInt8)(hl:(c::r).length<=4096):Fn TT PT 93 [.str (c::r)] (if 12<(Ex c r).length then .tup [.agg (Tk.row Tk.zero),iV 2] else .tup [.agg (Tk.row ⟨if Gk (Ex c r) then 3 else 1,Ex c r,0⟩),iV 0]):=by
 obtain⟨w1,w2,w3,w4⟩:=Ab3 (p:=H7) r;have hW:(c::r).take (Ex c r).length=Ex c r:=by simp[Ex,w4]
 have qC:(Ex c r).length=(r.takeWhile H7).length+1:=by simp[Ex]
 rw[An]at hl;generalize hn:(Ex c r).length=n at hW qC ⊢;refine Bg T93 rfl ?_;simp only[go_sem];refine Bk (α:=Nat) (fun i=>n - i) (fun i=>[(0,.str (c::r)),(2,.ptr 0 0 0),(4,iV (i:Int))]) (fun _=>[.row [iV 0,.str [],iV 0] 123 0 0]) (fun i=>1<=i/\i<=n) ?_ 1 ⟨by omega,by omega⟩;rintro i ⟨h1,h2⟩ ih;refine Bd Bp2 ?_;by_cases hi:i<n
 .obtain⟨x,x1,x2⟩:=w1 (i - 1) AA
  have x3:(c::r)[i]?=some x:=by
   obtain⟨j,rfl⟩:∃ j,i=j+1:=⟨i - 1,by omega⟩;simpa using x1
  have g1:decide ((i:Int)<((r.length+1:Nat):Int))=true:=by simp;omega
  have qy:((x.toNat:Int)==95)=(x==95):=Ud x 95 AG;have qu:=Az (show i<r.length+1 by omega);have qz:=A2 (show i<9223372036854775807 by omega);rw[Ay9]at x2;by_cases hL:Gw x=true
  .simp only[go_sem,qu,nn,x3];refine Ab (P3 x) AB ?_;simp only[go_sem,hL,qz];exact Av (ih (i+1) AA AA) rfl
  .have hL:Gw x=false:=by simpa using hL
   by_cases hD:Du x=true
   .simp only[go_sem,qu,nn,x3];refine Ab (P3 x) AB ?_;simp only[go_sem,hL,nn,x3];refine Ab (S3 x) AB ?_;simp only[go_sem,hD,qz];exact Av (ih (i+1) AA AA) rfl
   .have hD:Du x=false:=by simpa using hD
    rw[hL,hD]at x2;simp only[Zl]at x2;simp only[go_sem,qu,nn,x3];refine Ab (P3 x) AB ?_;simp only[go_sem,hL,nn,x3];refine Ab (S3 x) AB ?_;simp only[go_sem,hD,nn,x3,qy,x2,qz];exact Av (ih (i+1) AA AA) rfl
 .obtain rfl:i=n:=by omega
  have gi:(i<=r.length+1)=True:=eq_true AA
  have qK:Ul (.str (c::r)) none (some (iV (i:Int)))=some (.str (Ex c r)):=by
   rw[A0r _ _ (by grind),hW]
  by_cases hb:i<r.length+1
  .obtain⟨x,x1,x2⟩:=w2 AA;have x3:(c::r)[i]?=some x:=by rw[qC];simpa using x1
   have qy:((x.toNat:Int)==95)=(x==95):=Ud x 95 AG;have qu:=Az (show i<r.length+1 by omega);rw[Ay9]at x2;simp only[Aid]at x2;obtain⟨hL,hD,h9⟩:=x2;simp only[go_sem,qu,nn,x3];refine Ab (P3 x) AB ?_;simp only[go_sem,hL,nn,x3];refine Ab (S3 x) AB ?_;simp only[go_sem,hD,nn,x3,qy,h9];by_cases qm:12<i
   .have qh:decide ((12:Int)<(i:Int))=true:=by simp;omega
    rw[if_pos qm];simp only[go_sem,gt_iff_lt,qh];exact Hk AB rfl
   .have qh:decide ((12:Int)<(i:Int))=false:=by simp;omega
    rw[if_neg qm];simp only[go_sem,gt_iff_lt,qh,nn,gi,hW,Ax,true_and,if_true,C5];refine Fm P135 rfl AK ?_;cases hk:Gk (Ex c r)
    .simp only[go_sem,hk,nn,gi,hW,Ax,true_and,if_true,C5];exact Hk AB rfl
    .simp only[go_sem,hk,nn,gi,hW,Ax,true_and,if_true,C5];exact Hk AB rfl
  .simp only[go_sem,Bl (show r.length+1<=i by omega)];by_cases qm:12<i
   .have qh:decide ((12:Int)<(i:Int))=true:=by simp;omega
    rw[if_pos qm];simp only[go_sem,gt_iff_lt,qh];exact Hk AB rfl
   .have qh:decide ((12:Int)<(i:Int))=false:=by simp;omega
    rw[if_neg qm];simp only[go_sem,gt_iff_lt,qh,nn,gi,hW,Ax,true_and,if_true,C5];refine Fm P135 rfl AK ?_;cases hk:Gk (Ex c r)
    .simp only[go_sem,hk,nn,gi,hW,Ax,true_and,if_true,C5];exact Hk AB rfl
    .simp only[go_sem,hk,nn,gi,hW,Ax,true_and,if_true,C5];exact Hk AB rfl
def Hf(l:List UInt8):Nat:=l.count 10
def Jo(a b:List UInt8):Hf (a++b)=Hf a+Hf b:=Aij
def Ll(c:UInt8)(l:List UInt8):Hf (c::l)=Hf l+if c=10 then 1 else 0:=by
 unfold Hf;rw[List.count_cons]
 by_cases h:c=10<;>simp[h]
def Bfe{l:List UInt8}(h:∀ c∈l,c≠10):Hf l=0:=List.count_eq_zero.2 fun hm=>h 10 hm rfl
mutual
def Sp.lns:Sp->Nat
 | ⟨op,_,_,_,_,_,_,_,_,_,body,_,_,els⟩=>1+(if Bv op then 1+Sp.lnss body else 0)+(if els.isEmpty then 0 else 1+Sp.lnss els)
def Sp.lnss:List Sp->Nat
 | []=>0
 | x::l=>x.lns+Sp.lnss l
end
def Bkx{l:List UInt8}{j:Nat}(h:Jd l j=true):l.getD j 0≠10:=fun e=>by
 unfold Jd at h;rw[e]at h
 cases j<;>simp[K6,Ms]at h
def Ahe{l:List UInt8}(h:Bm l=true):Hf l=0:=by
 refine Bfe fun c hc=>?_
 obtain⟨i,hi,rfl⟩:=Ou hc;unfold Bm at h;simp only[Ai,Bu]at h;have:=Bkx (h.2.2.2 i (Eg.2 hi))
 rwa [Ef,B9 hi]at this
def Amw:∀ (k u:Nat),Hf (Ij k u)=0
 | 0,_=>rfl
 | k+1,u=>by
  have hd:∀ n,n<10->Hf [UInt8.ofNat (48+n)]=0:=by decide
  unfold Ij
  split
  .exact hd u AA
  .rw[Jo,Amw k,hd _ AA]
def Bff(n:Int):Hf (B3 n)=0:=by
 unfold B3
 split
 .rw[Ll,Amw];decide
 .exact Amw _ _
def A0s(op:Int):Hf (Bz op)=0:=by
 unfold Bz
 split<;>decide
def Amx{o:Int × List UInt8}(h:Hf o.2=0)(v:Int):Hf (Dg o v)=0:=by
 unfold Dg
 split
 .rw[Ll,Jo,h];decide
 .exact h
def Aza{x:Xp}(h:ShE x):Hf x.txt=0:=by
 induction h with
 | num h=>
  rw[Ei];simp only[Dr,if_pos];exact Bff _
 | name h=>
  rw[Ei];simp only[Dr];exact Ahe h
 | idx hn ha ih=>
  rw[Ei];simp only[Dr,Aw,B0];simp only[Int.reduceEq,if_false,if_true];rw[Jo,Ll,Jo,Ahe hn,ih];decide
 | @un op z t a ho ha ih=>
  rw[Ei];simp only[Dr,Aw,B0];rw[if_neg AA,if_neg AA,if_neg AA,Jo,A0s,Amx ih]
 | @bin op z t a b ho ha hb iha ihb=>
  rw[Ei];simp only[Dr,Aw,B0];rw[if_neg AA,if_neg AA,Jo,Ll,Jo,Ll,A0s,Amx iha,Amx ihb];decide
def Aax(op:Int):Hf (Co op)=0:=by
 unfold Co
 split<;>decide
def Bfg{s:Sp}(h:ShS s):Hf (Cp s)=0:=by
 obtain⟨h1,h2,h3,h4,h5,h6,h7,h8,h9,qF,qO,qm,qP,qQ⟩:=h
 have hn:Hf s.nm=0:=by
  cases e:F8 s.op
  .exact Ahe (h3 e)
  .rw[h2 e];rfl
 have ha:Hf s.arg=0:=by
  by_cases e:s.op=15
  .exact Ahe (h4 e)
  .rw[h5 e];rfl
 have hx:Ek s.op=true->Hf s.ex.txt=0:=fun e=>Aza (h9 e)
 have hi:Hf (E6 s.idx)=0:=by
  unfold E6
  split
  .rename_i a r e;rw[Ll,Jo,Aza (h8 a (by rw[e];simp))];decide
  .rfl
 unfold Cp
 split
 .rename_i e;rw[Jo,Jo,Ll,Ll,Ll,hn,hi,hx (by rw[e];rfl)];decide
 split
 .rename_i e;rw[Jo,Ll,Aax,hx (by rcases e with e | e<;>rw[e]<;>rfl)];decide
 split
 .exact Aax _
 split
 .rename_i e;rw[Jo,Ll,Jo,Ll,Aax,hn,hx (by rw[e];rfl)];decide
 split
 .rw[Jo,Ll,Jo,Ll,Aax,hn,ha];decide
 .rw[Jo,Ll,Aax,hn];decide
def ixU(c:UInt8):∀ (a r:List UInt8),c ∉ a->Lib.index (a++c::r) [c]=(a.length:Int)/\Lib.indexByte (a++c::r) c=(a.length:Int)
 | [],r,_=>by
  have hp:List.isPrefixOf [c] (c::r)=true:=by simp[List.isPrefixOf]
  constructor
  .rw[Ba];unfold Lib.index;rw[hp];rfl
  .rw[Ba,Lib.indexByte];simp
 | b::a,r,h=>by
  have hb:(c==b)=false:=by simp at h ⊢;exact h.1
  have qJ:(b==c)=false:=by simp at h ⊢;exact fun e=>h.1 e.symm
  obtain⟨h1,h2⟩:=ixU c a r (by simp at h;exact h.2);have hp:List.isPrefixOf [c] (b::(a++c::r))=false:=by simp[List.isPrefixOf]at hb ⊢;exact hb
  have hn:((a.length:Int) == -1)=false:=by simp
  constructor
  .rw[Bq];unfold Lib.index;rw[hp,h1];simp only[Hg,if_false,hn,An];omega
  .rw[Bq,Lib.indexByte,h2];simp only[qJ,Hg,if_false,hn,An];omega
def Bsc{c:UInt8}{a r:List UInt8}(h:c ∉ a):Lib.cut (a++c::r) [c]=(a,r,true):=by
 have hi:=(ixU c a r h).1;unfold Lib.cut;rw[hi,if_pos AA];simp
def Ds(s:Sp):List UInt8:=Cp s++if Bv s.op then [32,123] else [59]
mutual
def Sp.hds:Sp->List (List UInt8)
 | ⟨op,line,nm,arg,iz,it,idx,ex,bz,bt,body,ez,et,els⟩=>Ds ⟨op,line,nm,arg,iz,it,idx,ex,bz,bt,body,ez,et,els⟩::(Sp.hdss body++Sp.hdss els)
def Sp.hdss:List Sp->List (List UInt8)
 | []=>[]
 | x::l=>x.hds++Sp.hdss l
end
theorem Azb(s:Sp):s.hds=Ds s::(Sp.hdss s.body++Sp.hdss s.els):=by
 cases s;rw[Sp.hds]
mutual
theorem Bfh:∀ s:Sp,s.hds.length=s.sz
 | ⟨op,line,nm,arg,iz,it,idx,ex,bz,bt,body,ez,et,els⟩=>by
  rw[Azb,Mc];simp only[An,Aq];rw[Lj body,Lj els];omega
theorem Lj:∀ l:List Sp,(Sp.hdss l).length=Sp.szs l
 | []=>rfl
 | x::l=>by rw[Sp.hdss,Sp.szs,Aq,Bfh x,Lj l]
end
def Aw8{s:Sp}(h:ShS s):(10:UInt8) ∉ Ds s:=by
 have h0:Hf (Ds s)=0:=by
  unfold Ds;rw[Jo,Bfg h]
  split<;>decide
 exact List.count_eq_zero.1 h0
def Aoy(s:Sp):∃ r,s.txt 0=Ds s++10::r:=by
 rw[N1];unfold Ds
 split
 .exact⟨Sp.txts (0+1) s.body++((if s.els.isEmpty then [] else Ee 0++125::32::101::108::115::101::32::123::10::Sp.txts (0+1) s.els)++(Ee 0++[125,10])),by simp[Ee]⟩
 .exact⟨[],by simp[Ee]⟩
def I7(s:Sp):Sp:=⟨s.op,s.line,s.nm,s.arg,s.iz,s.it,s.idx,s.ex,true,0,[],true,0,[]⟩
def A6m(s:Sp):Ds (I7 s)=Ds s:=rfl
def Bfi{s:Sp}(h:CnS s):CnS (I7 s):=by
 cases h with
 | mk h1 h2 h3 h4 h5 h6 h7 h8 h9=>exact .mk h1 h2 h3 h4 h5 (fun _=>rfl) (fun _=>rfl) (fun x hx=>by cases hx) (fun x hx=>by cases hx)
def Bab(s:Sp):(∃ r,(I7 s).txt 0=Ds s++10::r)/\((I7 s).txt 0).length<=(Ds s).length+10:=by
 refine⟨A6m s ▸ Aoy (I7 s),?_⟩;rw[N1];unfold Ds;have:(I7 s).op=s.op:=rfl;have h2:Cp (I7 s)=Cp s:=rfl;rw[this,h2]
 split
 .simp[Ee,I7,Sp.txts]
 .simp[Ee]
mutual
theorem Bac:∀ (s:Sp) (d d':Nat),d<=d'->(s.txt d).length<=(s.txt d').length
 | ⟨op,line,nm,arg,iz,it,idx,ex,bz,bt,body,ez,et,els⟩,d,d',h=>by
  have h1:=Xf body (d+1) (d'+1) AA;have h2:=Xf els (d+1) (d'+1) AA;rw[N1,N1];simp only[Aq,Lk]
  split
  .cases els<;>simp[Lk]at h2 ⊢<;>omega
  .simp;omega
theorem Xf:∀ (l:List Sp) (d d':Nat),d<=d'->(Sp.txts d l).length<=(Sp.txts d' l).length
 | [],_,_,_=>by simp[Sp.txts]
 | x::l,d,d',h=>by
  have h1:=Bac x d d' h;have h2:=Xf l d d' h;rw[Oz,Oz,Aq,Aq];omega
end
def Aw9(s:Sp):(Ds s).length+1<=(s.txt 0).length:=by
 obtain⟨r,hr⟩:=Aoy s;rw[hr];simp
def Bfj{s:Sp}(h:Bv s.op=true):(Ds s).length+(Sp.txts 0 s.body).length+(Sp.txts 0 s.els).length<=(s.txt 0).length:=by
 have h1:=Xf s.body 0 1 AA;have h2:=Xf s.els 0 1 AA;rw[N1,if_pos h];unfold Ds;rw[if_pos h]
 cases he:s.els with
 | nil=>rw[he]at h2;simp[Ee,Sp.txts]at h2 ⊢;omega
 | cons a l=>rw[he]at h2;simp[Ee]at h2 ⊢;omega
/-! settled objects -/
def A6n(o:Ob):o.shut.refs=o.refs:=by cases o<;>rfl
theorem Ya:∀ (js:List Nat) (σ:St) (j:Nat),j ∉ js->(σ.freeze js)[j]?=σ[j]?
 | [],_,_,_=>rfl
 | i::js,σ,j,h=>by
  simp only[Bp,not_or]at h;simp only[St.freeze]
  split
  .rw[Ya js _ j h.2,Ce (Ne.symm h.1)]
  .exact Ya js _ j h.2
def Yp:∀ (js:List Nat) (σ:St),Cl σ->Cl (σ.freeze js)
 | [],_,h=>h
 | i::js,σ,h=>by
  simp only[St.freeze]
  split
  .rename_i ob ho;refine Yp js _ (F9 h ?_);rw[A6n];exact h ob (F7 ho)
  .exact Yp js _ h
def Aeu{R:V->St->Prop}{f p:Nat}{res:List AR}{thr:Bool}{body:AC}{vs:List V}{σ:St}(hT:TT f=some ⟨p,res,thr,body,none⟩)(hl:vs.length=p)(h:W TT PT [.c body] (C4 0 vs) σ (Hd fun e' σ1=>∃ v,Cd e' σ1 res=some v/\(Ci v=true/\∀ i∈v.refs,i<σ1.length)/\(σ.length<=σ1.length/\Cl σ1)/\R v σ1)):∃ v σ',Bw TT PT f vs σ v σ'/\R v σ':=by
 obtain⟨e',σ1,hE,v,hr,⟨h1,h2⟩,⟨h3,h4⟩,h5⟩:=h;exact⟨v,σ1,Vm hT hl ⟨e',σ1,hE,hr,rfl⟩ h2 h1 h3 h4,h5⟩
def Bad{R:V->St->Prop}{f p:Nat}{res:List AR}{body:AC}{vs:List V}{σ:St}(hT:TT f=some ⟨p,res,true,body,none⟩)(hl:vs.length=p)(h:W TT PT [.c body] (C4 0 vs) σ (Hd fun e' σ1=>∃ cs cs',Cd e' σ1 res=some (.agg cs)/\(cs.all V.cellB=true/\OCs σ1 cs cs'/\cs'.all V.rowB=true)/\(σ.length<=σ1.length/\Cl σ1)/\R (.agg cs') (σ1.freeze (Ag cs)))):∃ v σ',Th TT PT f vs σ v σ'/\R v σ':=by
 obtain⟨e',σ1,hE,cs,cs',hr,⟨h1,h2,h3⟩,⟨h4,h5⟩,h6⟩:=h;have qs:Da (.agg cs')=true:=h3;exact⟨.agg cs',σ1.freeze (Ag cs),Bdn hT hl ⟨e',σ1,hE,.agg cs,Ag cs,hr,h1,Tf h2 _ (fun i hi=>hi),rfl⟩ (Xc qs) (Aaq qs) (by grind[Ra]) (Yp _ _ h5),h6⟩
/-! statements that are made -/
def BK:Nat->Nat
 | 0=>100
 | k+1=>100+4*BK k
def YB:Nat->Nat
 | 0=>1
 | k+1=>1+2*YB k
def SX(k:Nat)(x:Sp):Prop:=x.sz<=YB k/\∀ l∈x.hds,l.length<=302
def SM(k:Nat)(x:Sp):Prop:=(SB k x/\SX k x)/\C3 x.row<=BK k
def Axa:∀ {k k':Nat},k<=k'->YB k<=YB k'
 | 0,0,_=>Aj _
 | 0,k'+1,_=>by simp[YB]
 | k+1,k'+1,h=>by
  have:=Axa (k:=k) (k':=k') AA;simp only[YB];omega
def Agk{k:Nat}:∀ {l:List Sp},(∀ x∈l,SX k x)->Sp.szs l<=l.length*YB k/\∀ y∈Sp.hdss l,y.length<=302
 | [],_=>⟨by simp[Sp.szs],fun y hy=>by cases hy⟩
 | x::l,h=>by
  obtain⟨h1,h2⟩:=Agk (l:=l) fun y hy=>h y (Cb _ hy)
  obtain⟨h3,h4⟩:=h x B4;refine⟨by rw[Sp.szs,An,Ox];omega,fun y hy=>?_⟩;rw[Sp.hdss]at hy;rcases Cu.1 hy with hy | hy
  .exact h4 y hy
  .exact h2 y hy
def Axb:∀ {k k':Nat},k<=k'->ZB k<=ZB k'
 | 0,0,_=>Aj _
 | 0,k'+1,_=>by simp[ZB]
 | k+1,k'+1,h=>by
  have:=Axb (k:=k) (k':=k') AA
  grind[ZB]
def Aly:∀ {k k':Nat},k<=k'->BK k<=BK k'
 | 0,0,_=>Aj _
 | 0,k'+1,_=>by simp[BK]
 | k+1,k'+1,h=>by
  have:=Aly (k:=k) (k':=k') AA
  grind[BK]
def Bfk{k k':Nat}{x:Sp}(hk:k<=k')(h:SM k x):SM k' x:=by
 obtain⟨⟨⟨h1,h2,h3⟩,h5,h6⟩,h4⟩:=h;have:=Axa hk;have:=Axb hk;have:=Aly hk;exact⟨⟨⟨h1,by omega,fun d hd=>C8 (h3 d AA) (Nat.mul_le_mul_left _ AA)⟩,by omega,h6⟩,by omega⟩
/-! the maker's locks -/
def Azc{σ σ2:St}{m b:Nat}{uH vH:V}{H H':List (List UInt8)}(h:MKr σ m b uH H)(th left:Int)(se tx ao lp:Bool)(hl:σ.length<=σ2.length)(hB:∀ j,j<σ.length->j ∉ uH.refs->σ2[j]?=σ[j]?)(g:GS σ2 1 9 vH (H'.map fun x=>[V.str x]))(hr:∀ j∈vH.refs,j∈uH.refs\/σ.length<=j)(hc:Cl σ2):
  MKr (σ2.set m (mO b th left se tx ao lp vH)) m b vH H'/\FW m σ (σ2.set m (mO b th left se tx ao lp vH)):=by
 have hm:=Mm h;have hb:=Pm h.tape;have hf:=H6 h;have qe:Ag [.ptr b 0 0,iV th,iV left,.bool se,.bool tx,.bool ao,.bool lp,vH]=b::vH.refs:=by simp[Ag,V.refs]
 have nv:∀ j∈vH.refs,j≠m/\j≠b:=fun j hj=>by
  rcases hr j hj with h2 | h2
  .exact h.hd j h2
  .omega
 have e2:σ2[m]?=σ[m]?:=hB m hm fun e=>(h.hd m e).1 rfl
 have e3:σ2[b]?=σ[b]?:=hB b hb fun e=>(h.hd b e).2 rfl
 refine⟨⟨⟨th,left,se,tx,ao,lp,Cr AA⟩,?_,h.ne,Ig g fun i hi=>Ce (Ne.symm (nv i hi).1),nv,F9 hc fun i hi=>?_⟩,Amh (τ:=σ2) ⟨hl,fun j hj hn=>?_,fun j hj=>?_⟩ hm fun j hj=>?_⟩
 .obtain⟨z,t,l,a,h1,h2⟩:=h.tape;exact⟨z,t,l,a,by rw[Ce h.ne,e3];exact h1,h2⟩
 .simp only[Ob.refs,qe,Bp]at hi;rcases hi with rfl | hi
  .omega
  grind[Cz]
 .grind
 .grind[fp]
 grind
def OL(σ0 σ:St)(m:Nat)(u:V)(L:List Sp):Prop:=GS σ 11 98 u (L.map Sp.row)/\∀ j∈u.refs,σ0.length<=j/\j ∉ fp σ m
def A0t{σ0 σ τ:St}{m:Nat}{u:V}{L:List Sp}(h:OL σ0 σ m u L)(hw:FW m σ τ):OL σ0 τ m u L:=by
 obtain⟨h1,h2⟩:=h;refine⟨Ig h1 fun i hi=>hw.2.1 i (Cz h1 i hi) (h2 i hi).2,fun j hj=>⟨(h2 j hj).1,fun hm=>?_⟩⟩;have:=Cz h1 j hj;rcases hw.2.2 j hm with h3 | h3
 .grind
 .omega
def Bky{σ0 σ:St}{m b:Nat}{uH u:V}{H:List (List UInt8)}{L:List Sp}(h:OL σ0 σ m u L)(hk:MKr σ m b uH H)(h0:FW m σ0 σ)(qr:m<σ0.length)(x:Sp)(hb:L.length<=1000000):∃ u' σ',Dt 176 (11,98) u (.lst 1 [x.row]) σ=some (u',σ')/\OL σ0 σ' m u' (L++[x])/\MKr σ' m b uH H/\FW m σ0 σ':=by
 obtain⟨h1,h2⟩:=h;have qT:(L.map Sp.row).length=L.length:=Ar ..;obtain⟨u',σ',e1,g,hl,hB,hr,hc⟩:=Xt (bytes:=176) (row:=x.row) h1 AA (O3 x) (Hc x) AA;have hf:=H6 hk
 have nf:∀ i∈fp σ m,i<σ.length/\i ∉ u.refs:=fun i hi=>by
  refine⟨?_,fun e=>(h2 i e).2 hi⟩;rw[hf]at hi;simp only[Bp]at hi;rcases hi with rfl | rfl | hi
  .grind[Mm]
  .exact Pm hk.tape
  .exact Cz hk.h i hi
 have kp:∀ i∈fp σ m,σ'[i]?=σ[i]?:=fun i hi=>hB i (nf i hi).1 (nf i hi).2
 have hm:σ'[m]?=σ[m]?:=kp m (by grind);have qR:σ'[b]?=σ[b]?:=kp b (by grind);have qE:fp σ' m=fp σ m:=by unfold fp;rw[hm]
 refine⟨u',σ',e1,⟨by grind,fun j hj=>?_⟩,Rt hk (hc hk.cl) hm ?_ (fun i hi=>kp i (by grind)),Ayj h0 qr hl (fun j hj=>.inr (h2 j hj).1) (fun j hj hn=>hB j hj hn) fun e=>(h2 m e).2 (by grind)⟩
 .rw[qE];rcases hr j hj with h3 | h3
  .grind
  .exact⟨by have:=h0.1;omega,fun e=>by grind⟩
 .obtain⟨z,t,l,a,h1,h2⟩:=hk.tape;exact⟨z,t,l,a,by grind,h2⟩
def MSt(k:Nat):Prop:=∀ (σ:St) (m b:Nat) (uH:V) (H:List (List UInt8)),MKr σ m b uH H->H.length+k<=100->∃ v σ',Th TT PT 64 [.ptr m 0 0,iV (k:Int)] σ v σ'/\(∃ x:Sp,v=.agg x.row/\SM k x)/\(∃ uH',MKr σ' m b uH' H)/\FW m σ σ'
def MSs(k:Nat):Prop:=∀ (σ:St) (m b:Nat) (uH:V) (H:List (List UInt8)),MKr σ m b uH H->H.length+k<=100->∀ n:Nat,n<=1000000->∃ v σ',Bw TT PT 35 [.ptr m 0 0,iV (k:Int),iV (n:Int)] σ v σ'/\∃ (L:List Sp) (uH':V),OL σ σ' m v L/\(∀ x∈L,SM k x)/\L.length<=n/\MKr σ' m b uH' H/\FW m σ σ'
def Arz{k:Nat}(hS:MSt k):MSs k:=by
 intro σ m b uH H h hH n hn;have qr:=Mm h;refine Aeu T35 rfl ?_;simp only[go_sem];refine Bk (α:=Nat × St × V × V × List Sp) (fun a=>n - a.1) (fun a=>[(0,.ptr m 0 0),(1,iV (k:Int)),(2,iV (n:Int)),(7,a.2.2.1),(8,iV (a.1:Int))]) (fun a=>a.2.1) (fun a=>a.1<=n/\(OL σ a.2.1 m a.2.2.1 a.2.2.2.2/\(∀ x∈a.2.2.2.2,SM k x)/\a.2.2.2.2.length=a.1)/\MKr a.2.1 m b a.2.2.2.1 H/\FW m σ a.2.1) ?_ (0,σ,.nils,uH,[]) ⟨Ax _,⟨⟨Abd,by simp[V.refs]⟩,by simp,rfl⟩,h,Ali _ _⟩;rintro⟨i,s,u,vH,L⟩ ⟨hi,⟨hO,hL,qd⟩,hk,hw⟩ ih;simp only at hi hO hL qd hk hw ih;obtain⟨_,left,_,_,_,_,m1⟩:=hk.row;have qq:=Kz hO.1;have qi:∃ v,some u=some v/\(Ci v=true/\∀ i∈v.refs,i<s.length)/\(σ.length<=s.length/\Cl s)/\∃ (L:List Sp) (uH':V),OL σ s m v L/\(∀ x∈L,SM k x)/\L.length<=n/\MKr s m b uH' H/\FW m σ s:=⟨u,rfl,⟨by cases u<;>simp[V.cellB]at qq<;>rfl,Cz hO.1⟩,⟨hw.1,hk.cl⟩,L,vH,hO,hL,by omega,hk,hw⟩;refine Bd Bo6 ?_;by_cases hc:i<n/\(i=0\/0<left)
 .have f1:((i:Int)<(n:Int))=True:=eq_true AA;obtain⟨_,s2,q2,⟨x,rfl,hx⟩,⟨qN,qL⟩,w2⟩:=hS s m b vH H hk hH;have qH:=A0t hO w2;obtain⟨u',s3,ha,qI,qM,w3⟩:=Bky qH qL (Fv hw w2) qr x AA;have qk:=Hc x;have qo:=Fl x;rw[qo]at q2 qk ha;rcases(show i=0\/(i≠0/\0<left) by omega) with h0 | ⟨h0,hl⟩
  case' inl=>have f2:((i:Int)==0)=true:=by simp[h0]
  case' inr=>have f2:((i:Int)==0)=false:=by simp[h0]
  case' inr=>have f3:((0:Int)<left)=True:=eq_true hl
  case' inl=>simp only[go_sem,m1,f1,f2]
  case' inr=>simp only[go_sem,m1,f1,f2,f3,gt_iff_lt]
  all_goals
   refine Ca q2 ?_;simp only[go_sem,ha,A2 (show i<9223372036854775807 by omega)];refine Av (ih (i+1,s3,u',qN,L++[x]) AA ⟨by omega,⟨qI,fun y hy=>?_,by grind⟩,qM,w3⟩) rfl
   grind
 .by_cases h1:i<n
  .have f1:((i:Int)<(n:Int))=True:=eq_true AA;have f2:((i:Int)==0)=false:=by simp;omega
   have f3:((0:Int)<left)=False:=eq_false AA;simp only[go_sem,m1,f1,f2,f3,gt_iff_lt];exact qi
  .have f1:((i:Int)<(n:Int))=False:=eq_false AA;simp only[go_sem,m1,f1];exact qi
