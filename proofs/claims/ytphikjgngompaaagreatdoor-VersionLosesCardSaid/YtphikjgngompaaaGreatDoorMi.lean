/- Walks: which programs are shaped: lists of statements, declarations, programs. -/
import Derived.Test.YtphikjgngompaaaGreatDoorGe
import Derived.Test.YtphikjgngompaaaGreatDoorLh
set_option linter.all false
namespace Go.Proofs.YtphikjgngompaaaGreatDoor.KM
open Go
def Aj1(z:Bool)(t:Nat)(l:List Sp)(hl:l.length<=1000000000)(ih:∀ y∈l,Fn TT PT 154 [.agg y.row] (.bool (Pu y))):Fn TT PT 124 [SL z t (l.map Sp.row)] (.bool (Lx l)):=by
 have qd:(l.map Sp.row).length=l.length:=Au ..;rw[Aub];obtain⟨R,hR⟩:∃ b,b=l.all Pu:=⟨_,rfl⟩;rw[<-hR];refine Bj T124 rfl ?_;simp only[go_sem];refine Bk (α:=Nat) (fun i=>l.length - i) (fun i=>[(0,SL z t (l.map Sp.row)),(3,iV (i:Int))]) (fun _=>[]) (fun i=>i<=l.length/\l.all Pu=(l.drop i).all Pu) ?_ 0 ⟨Ax _,rfl⟩;rintro i ⟨hi,qg⟩ jh;refine Bd Bjr ?_;by_cases hc:i<l.length
 .have f1:((i:Int)<(l.length:Int))=True:=eq_true AA;have qw:=A1 (show i<9223372036854775807 by omega);obtain⟨a,ha⟩:∃ a,l[i]?=some a:=⟨_,Ca hc⟩;have qM:=Hc a;have hf:=ih a (Gx ha);have qv:(l.map Sp.row)[i]?=some a.row:=by rw[As,ha,Jc]
  have qN:l.drop i=a::l.drop (i+1):=by rw[Hv hc,(Al.1 ha).2]
  have qA:=Oz a;rw[qN,B5]at qg;generalize a.row=ar at qv hf qM qA;have qL:ar.take 11=ar:=Jb AA;cases hab:Pu a
  .rw[hab]at hf qg;rw[qg]at hR;subst hR;simp only[go_sem,qd,f1,qv,qA,qL];refine Ab hf (by grind) ?_;simp only[go_sem];exact Ah rfl rfl
  .rw[hab]at hf qg;simp only[go_sem,qd,f1,qv,qA,qL];refine Ab hf (by grind) ?_;simp only[go_sem,qw];exact Aq (jh (i+1) AA ⟨hc,by grind⟩) rfl
 .have f1:((i:Int)<(l.length:Int))=False:=eq_false AA;rw[qg,Ec AA]at hR;subst hR;simp only[go_sem,qd,f1];exact Ah rfl rfl
def Amt:∀ (N:Nat) (s:Sp),C5 s.row<=N->N<=1000000000->Fn TT PT 154 [.agg s.row] (.bool (Pu s))
 | 0,s,h,_=>by rw[N0]at h;omega
 | N+1,s,h,hN=>by
  have h1:=N0 s;have h2:=Mb (f:=Xp.row) (fun x=>by grind[G9]) s.idx;have h3:=Mb (f:=Sp.row) (fun x=>by grind[N0]) s.body;have h4:=Mb (f:=Sp.row) (fun x=>by grind[N0]) s.els;have h5:=Mb (f:=Xp.row) (fun x=>by grind[G9]) s.ex.l;have h6:=G9 s.ex;refine A9u s (fun x hx=>Agl N x ?_ AA) (Agl N s.ex AA AA) AA AA AA AA (Aj1 _ _ _ AA fun y hy=>Amt N y ?_ AA) (Aj1 _ _ _ AA fun y hy=>Amt N y ?_ AA)
  .grind[J1]
  .grind[J1]
  grind[J1]
set_option maxHeartbeats 1000000 in
def Bku(d:Dp):Fn TT PT 122 [.agg d.row] (.bool (Wt d)):=by
 obtain⟨kind,line,nm,size,init,on⟩:=d;obtain⟨R,hR⟩:∃ b,b=Wt ⟨kind,line,nm,size,init,on⟩:=⟨_,rfl⟩;rw[<-hR];unfold Wt at hR;simp only at hR;have qq:=Vi nm;have qy:=Vi on;refine Bj T122 rfl ?_;unfold Dp.row;simp only;obtain⟨A3,h3⟩:∃ b,b=Bm nm:=⟨_,rfl⟩;obtain⟨A6,h6⟩:∃ b,b=(if kind=5 then Bm on else on==[]):=⟨_,rfl⟩;obtain⟨A7,h7⟩:∃ b,b=(decide (-9223372036854775808<init)&&(init==0||(kind==1||kind==2))):=⟨_,rfl⟩;rw[<-h3,<-h6,<-h7]at hR;rw[<-h3]at qq;refine F1 (fun e σ=>e=[(1,.ptr 0 0 0)]/\σ=[.row [iV kind,iV line,.str nm,iV size,iV init,.str on] 85 0 0]) (fun k' hk=>?_) ?_
 .simp only[go_sem];exact hk _ _ ⟨rfl,rfl⟩
 rintro e σ ⟨rfl,rfl⟩;refine F1 (fun e σ=>(e=[(1,.ptr 0 0 0)]/\σ=[.row [iV kind,iV line,.str nm,iV size,iV init,.str on] 85 0 0])/\R=(A6&&A7)) (fun k' hk=>?_) ?_
 .by_cases g1:kind<1
  .rw[decide_eq_false (show ¬ 1<=kind by omega)]at hR;subst hR;have f1:(kind<1)=True:=eq_true g1;simp only[go_sem,f1];exact Ah rfl rfl
  have f1:(kind<1)=False:=eq_false g1;rw[decide_eq_true (show 1<=kind by omega)]at hR;by_cases g2:6<kind
  .rw[decide_eq_false (show ¬ kind<=6 by omega)]at hR;subst hR;have f2:((6:Int)<kind)=True:=eq_true g2;simp only[go_sem,f1,f2,gt_iff_lt];exact Ah rfl rfl
  have f2:((6:Int)<kind)=False:=eq_false g2;rw[decide_eq_true (show kind<=6 by omega)]at hR;cases A3
  .subst hR;simp only[go_sem,f1,f2,gt_iff_lt];refine Ab qq rfl ?_;simp only[go_sem,A2];exact Ah rfl rfl
  by_cases g4:size<0
  .rw[decide_eq_false (show ¬ 0<=size by omega)]at hR;subst hR;have f4:(size<0)=True:=eq_true g4;simp only[go_sem,f1,f2,gt_iff_lt];refine Ab qq rfl ?_;simp only[go_sem,f4,A0];exact Ah rfl rfl
  have f4:(size<0)=False:=eq_false g4;rw[decide_eq_true (show 0<=size by omega)]at hR
  cases q1:(kind==1)<;>cases q5:(size==0)
  .rw[q1,q5]at hR;subst hR;simp only[go_sem,f1,f2,gt_iff_lt];refine Ab qq rfl ?_;simp only[go_sem,f4,A0,A2,bne,q1,q5];exact Ah rfl rfl
  all_goals
   rw[q1,q5]at hR;simp only[go_sem,f1,f2,gt_iff_lt];refine Ab qq rfl ?_;simp only[go_sem,f4,A0,A2,bne,q1,q5];exact hk _ _ ⟨⟨rfl,rfl⟩,by grind⟩
 clear hR;rintro e σ ⟨⟨rfl,rfl⟩,hR⟩;refine F1 (fun e σ=>(e=[(1,.ptr 0 0 0)]/\σ=[.row [iV kind,iV line,.str nm,iV size,iV init,.str on] 85 0 0])/\R=A7) (fun k' hk=>?_) ?_
 .by_cases h5:kind=5
  .rw[if_pos h5]at h6;have q5:(kind==5)=true:=by simp[h5]
   rw[<-h6]at qy;cases A6
   .subst hR;simp only[go_sem,q5,bne,A0,A2];refine Ab qy rfl ?_;simp only[go_sem,A2];exact Ah rfl rfl
   .simp only[go_sem,q5,bne,A0,A2];refine Ab qy rfl ?_;simp only[go_sem,q5,bne,A0,A2];exact hk _ _ ⟨⟨rfl,rfl⟩,by grind⟩
  .rw[if_neg h5]at h6;have h6:=h6.symm;have q5:(kind==5)=false:=by simp[h5]
   cases A6
   .subst hR;simp only[go_sem,q5,h6,bne,A0,A2];exact Ah rfl rfl
   .simp only[go_sem,q5,h6,bne,A0,A2];exact hk _ _ ⟨⟨rfl,rfl⟩,by grind⟩
 clear hR;rintro e σ ⟨⟨rfl,rfl⟩,hR⟩;rw[h7]at hR;by_cases g7 : -9223372036854775808<init
 .have f7:((-9223372036854775808:Int)<init)=True:=eq_true g7;rw[decide_eq_true g7]at hR
  cases q0:(init==0)<;>cases q1:(kind==1)<;>cases q2:(kind==2)
  all_goals
   rw[q0,q1,q2]at hR;subst hR;simp only[go_sem,f7,q0,q1,q2,gt_iff_lt];exact Ah rfl rfl
 .have f7:((-9223372036854775808:Int)<init)=False:=eq_false g7;rw[decide_eq_false g7]at hR;subst hR;simp only[go_sem,f7,gt_iff_lt];exact Ah rfl rfl
set_option maxHeartbeats 1000000 in
def Bkv(p:Gp)(hb:C5 p.row<=1000000000):Fn TT PT 70 [.agg p.row] (.bool (shG p)):=by
 obtain⟨dz,dt,decls,tz,tt,thrs⟩:=p;rw[Anx]at hb;simp only at hb;have b1:=Mb (f:=Dp.row) (fun x=>by grind[Bqa]) decls;have b2:=Mb (f:=Tp.row) (fun x=>by grind[Aca]) thrs;have n1:(decls.map Dp.row).length=decls.length:=Au ..;have n2:(thrs.map Tp.row).length=thrs.length:=Au ..;obtain⟨R,hR⟩:∃ b,b=shG ⟨dz,dt,decls,tz,tt,thrs⟩:=⟨_,rfl⟩;rw[<-hR];unfold shG at hR;simp only at hR;unfold Gp.row;simp only;refine Bj T70 rfl ?_;simp only[go_sem];refine Bk (α:=Nat) (fun i=>decls.length - i) (fun i=>[(1,.ptr 0 0 0),(3,iV (i:Int))]) (fun _=>[.row [SL dz dt (decls.map Dp.row),SL tz tt (thrs.map Tp.row)] 29 0 0]) (fun i=>i<=decls.length/\decls.all Wt=(decls.drop i).all Wt) ?_ 0 ⟨Ax _,rfl⟩;rintro i ⟨hi,hc⟩ ih;refine Bd Bpc ?_;rcases Bh i decls.length with h' | h'
 .obtain⟨x,hx,hd,hm⟩:=Bq h';rw[hd,B5]at hc;have hf:=Bku x;have qc:x.row=[iV x.kind,iV x.line,.str x.nm,iV x.size,iV x.init,.str x.on]:=rfl;rw[qc]at hf;cases hx1:Wt x
  .rw[hx1]at hf hc;obtain rfl:R=false:=by grind
   simp only[go_sem,n1,Ay h',As,hx,qc];refine Ab hf AB ?_;simp only[go_sem,A2];exact Ah rfl rfl
  .rw[hx1]at hf hc;simp only[go_sem,n1,Ay h',As,hx,qc];refine Ab hf AB ?_;simp only[go_sem,A0,A1 (show i<9223372036854775807 by omega)];exact Aq (ih (i+1) AA ⟨h',by grind⟩) rfl
 .rw[Ec h']at hc;rw[hc]at hR;clear ih hc hi;simp only[go_sem,n1,Bl h'];refine Bk (α:=Nat × St) (fun a=>thrs.length - a.1) (fun a=>[(1,.ptr 0 0 0),(4,iV (a.1:Int))]) (fun a=>a.2) (fun a=>a.1<=thrs.length/\a.2[0]?=some (.row [SL dz dt (decls.map Dp.row),SL tz tt (thrs.map Tp.row)] 29 0 0)/\thrs.all shT=(thrs.drop a.1).all shT) ?_ (0,_) ⟨Ax _,rfl,rfl⟩;rintro⟨i,s⟩ ⟨hi,hs,hc⟩ ih;simp only at hi hc hs ih;refine Bd Bpe ?_;rcases Bh i thrs.length with h' | h'
  .obtain⟨x,hx,hd,hm⟩:=Bq h';rw[hd,B5]at hc;have qI:=J1 (f:=Tp.row) hm;obtain⟨nm,line,lz,lt,locals,bz,bt,body⟩:=x;rw[Aca]at qI;simp only at qI;have b3:=Mb (f:=fun s=>[V.str s]) (fun x=>by grind[C5,V.bulk]) locals;have b4:=Mb (f:=Sp.row) (fun x=>by grind[N0]) body;have n3:(locals.map fun s=>[V.str s]).length=locals.length:=Au ..;have qu:shT ⟨nm,line,lz,lt,locals,bz,bt,body⟩=false->R=false:=fun h=>by grind
   have qX:shT ⟨nm,line,lz,lt,locals,bz,bt,body⟩=(locals.all Bm&&(Bm nm&&Lx body)):=rfl;have qc:Tp.row ⟨nm,line,lz,lt,locals,bz,bt,body⟩=[.str nm,iV line,SL lz lt (locals.map fun x=>[V.str x]),SL bz bt (body.map Sp.row)]:=rfl;obtain⟨s',qB⟩:∃ s',s'=s++[Ob.row [.str nm,iV line,SL lz lt (locals.map fun x=>[V.str x]),SL bz bt (body.map Sp.row)] 89 0 0]:=⟨_,rfl⟩;have k1:s'[s.length]?=some (.row [.str nm,iV line,SL lz lt (locals.map fun x=>[V.str x]),SL bz bt (body.map Sp.row)] 89 0 0):=by rw[qB,Fz (Ak _),Id];rfl
   have k0:s'[0]?=some (.row [SL dz dt (decls.map Dp.row),SL tz tt (thrs.map Tp.row)] 29 0 0):=by rw[qB];exact Bs hs
   simp only[go_sem,hs,n2,Ay h',As,hx,qc];rw[<-qB];refine Bk (α:=Nat) (fun k=>locals.length - k) (fun k=>[(1,.ptr 0 0 0),(4,iV (i:Int)),(5,.ptr s.length 0 0),(6,iV (k:Int))]) (fun _=>s') (fun k=>k<=locals.length/\locals.all Bm=(locals.drop k).all Bm) ?_ 0 ⟨Ax _,rfl⟩;rintro k ⟨hk,hl⟩ jh;refine Bd Bpd ?_;rcases Bh k locals.length with g' | g'
   .obtain⟨y,hy,qS,qY⟩:=Bq g';rw[qS,B5]at hl;have hf:=Vi y;cases hy1:Bm y
    .rw[hy1]at hf hl;obtain rfl:=qu (by grind);simp only[go_sem,k1,n3,Ay g',As,hy];refine Ab hf AB ?_;simp only[go_sem,A2];exact Ah rfl rfl
    .rw[hy1]at hf hl;simp only[go_sem,k1,n3,Ay g',As,hy];refine Ab hf AB ?_;simp only[go_sem,A0,A1 (show k<9223372036854775807 by omega)];exact Aq (jh (k+1) AA ⟨g',by grind⟩) rfl
   .rw[Ec g']at hl;clear jh;have qp:=Vi nm;have qs:=Aj1 bz bt body AA fun y hy=>Amt 1000000000 y (by grind[J1]) (Ak _)
    cases hn1:Bm nm
    .rw[hn1]at qp;obtain rfl:=qu (by grind);simp only[go_sem,k1,n3,Bl g'];refine Ab qp AB ?_;simp only[go_sem,A2];exact Ah rfl rfl
    .rw[hn1]at qp;cases hb1:Lx body
     .rw[hb1]at qs;obtain rfl:=qu (by grind);simp only[go_sem,k1,n3,Bl g'];refine Ab qp AB ?_;simp only[go_sem,A0,k1];refine Ab qs AB ?_;simp only[go_sem,A2];exact Ah rfl rfl
     .rw[hb1]at qs;simp only[go_sem,k1,n3,Bl g'];refine Ab qp AB ?_;simp only[go_sem,A0,k1];refine Ab qs AB ?_;simp only[go_sem,A0,A1 (show i<9223372036854775807 by omega)];refine Aq (ih (i+1,s') AA ⟨by omega,k0,?_⟩) rfl
      grind
  .rw[Ec h']at hc;rw[hc]at hR;by_cases hn:thrs.length=0
   .obtain rfl:R=false:=by
     grind
    have f1:((0:Int)<(thrs.length:Int))=False:=eq_false AA;simp only[go_sem,hs,n2,Bl h',gt_iff_lt,f1];exact Ah rfl rfl
   .obtain rfl:R=true:=by
     grind
    have f1:((0:Int)<(thrs.length:Int))=True:=eq_true AA;simp only[go_sem,hs,n2,Bl h',gt_iff_lt,f1];exact Ah rfl rfl
theorem Agn{p:UInt8->Bool}:∀ {l:List UInt8} {x:UInt8},x∈l.takeWhile p->p x=true
 | [],x,h=>by cases h
 | c::l,x,h=>by
  rw[Wy]at h
  split at h
  .rename_i hc;rcases Bp.1 h with rfl | h
   .exact hc
   .exact Agn h
  grind
def D7(ts:List Tk):Prop:=∀ t∈ts,(t.kind=1->Bm t.text=true)/\(t.kind=2->0<=Jv t.text/\Jv t.text<=9223372036854775807)
theorem Dk{a b:List Tk}(h:D7 b)(hs:a <:+ b):D7 a:=fun t ht=>h t (hs.subset ht)
def wt(C:Nat)(ts:List Tk):Nat:=C*ts.length
def Vs(C:Nat)(t:Tk)(ts:List Tk):wt C (t::ts)=C+wt C ts:=by grind[wt]
theorem Nu{s:List UInt8}{ts:List Tk}{C:Nat}(h:Av s ts=true):ts.tail <:+ ts/\ts.tail.length+1=ts.length/\wt C ts=C+wt C ts.tail:=by
 cases ts with
 | nil=>cases h
 | cons t r=>exact⟨U3 t r,rfl,Vs C t r⟩
def Bew{lvl:Nat}{ts:List Tk}{C:Nat}(h:H9 lvl ts≠0):ts.tail <:+ ts/\ts.tail.length+1=ts.length/\wt C ts=C+wt C ts.tail:=by
 cases ts with
 | nil=>exact absurd rfl h
 | cons t r=>exact⟨U3 t r,rfl,Vs C t r⟩
theorem We{l:List UInt8}(h:Bm l=true):l.length<=12:=by
 obtain⟨c,cs,rfl,-,-,h,-⟩:=Akv h;exact h
theorem A6b{op:Int}(h:6<=op/\op<=18)(x y:Xp):(Jw op x y).txt.length<=x.txt.length+y.txt.length+8:=by
 unfold Jw;rw[Aw0 h];have h1:=(O2 (x.op,x.txt) (Gg op)).2;have h2:=(O2 (y.op,y.txt) (Bf op+1)).2
 grind[Afl]
def A90{op:Int}(h:op=4\/op=5)(x:Xp):(Pt op x).txt.length<=x.txt.length+4:=by
 unfold Pt;rw[(Ayy h).1];have h1:=(O2 (x.op,x.txt) 6).2
 grind[Afl]
def XQ(C:Nat)(ts:List Tk)(x:Xp)(r:List Tk):Prop:=ShE x/\r <:+ ts/\r.length<ts.length/\x.txt.length+wt C r<=wt C ts
def Xl{C:Nat}(hC:25<=C):∀ n,(∀ lvl ts x r,D7 ts->pe n lvl ts=some (x,r)->XQ C ts x r) /\
  (∀ lvl x0 ts x r,D7 ts->ShE x0->lp n lvl x0 ts=some (x,r)->ShE x/\r <:+ ts/\r.length<=ts.length/\x.txt.length+wt C r<=x0.txt.length+wt C ts) /\
  (∀ ts x r,D7 ts->pu n ts=some (x,r)->XQ C ts x r)/\(∀ ts x r,D7 ts->pp n ts=some (x,r)->XQ C ts x r)
 | 0=>⟨fun _ _ _ _ _ h=>by grind[pe],fun _ _ _ _ _ _ _ h=>by grind[lp],fun _ _ _ _ h=>by grind[pu],fun _ _ _ _ h=>by grind[pp]⟩
 | n+1=>by
  obtain⟨qm,qo,qt,qZ⟩:=Xl hC n;refine⟨fun lvl ts x r ht h=>?_,fun lvl x0 ts x r ht h0 h=>?_,fun ts x r ht h=>?_,fun ts x r ht h=>?_⟩
  .rw[pe]at h
   split at h
   .grind
   .split at h
    .cases h
    .rename_i y q hy;obtain⟨a1,a2,a3,a4⟩:=qm _ _ _ _ ht hy;obtain⟨b1,b2,b3,b4⟩:=qo _ _ _ _ _ (Dk ht a2) a1 h;exact⟨b1,b2.trans a2,by omega,by omega⟩
  .rw[lp]at h
   split at h
   .grind
   .rename_i ho;obtain⟨t1,t2,t3⟩:=Bew (C:=C) ho;obtain⟨o1,-,-⟩:=A9z ho
    split at h
    .cases h
    .rename_i y q hy;obtain⟨a1,a2,a3,a4⟩:=qm _ _ _ _ (Dk ht t1) hy;have hs:ShE (Jw (H9 lvl ts) x0 y):=.bin o1 h0 a1
     grind[A6b,Dk]
  .have un:∀ (op:Int),op=4\/op=5->∀ s,Av s ts=true->(match pu n ts.tail with
     | none=>none
     | some (x,r)=>some (Pt op x,r))=some (x,r)->XQ C ts x r:=fun op ho s hs h=>by
    obtain⟨t1,t2,t3⟩:=Nu (C:=C) hs
    split at h
    .cases h
    .rename_i y q hy;cases h;obtain⟨a1,a2,a3,a4⟩:=qt _ _ _ (Dk ht t1) hy;have:=A90 ho y;exact⟨.un ho a1,a2.trans t1,by omega,by omega⟩
   rw[pu]at h
   split at h
   .rename_i hs;exact un 4 (.inl rfl) _ hs h
   .split at h
    .rename_i hs;exact un 5 (.inr rfl) _ hs h
    grind
  .cases ts with
   | nil=>grind[pp]
   | cons t ts=>
    have hw:=Vs C t ts;have qe:=U3 t ts;have qk:=Dk ht qe;obtain⟨k1,k2⟩:=ht t B7;rw[pp]at h
    split at h
    .rename_i hk;cases h;refine⟨.num (k2 hk),qe,by simp,?_⟩;have:=Xt (Jv t.text);rw[Ek];simp only[Dt,if_true];omega
    .split at h
     .rename_i hk;have hn:=k1 hk;have qW:=We hn
      split at h
      .rename_i hs;obtain⟨t1,t2,t3⟩:=Nu (C:=C) hs
       split at h
       .cases h
       .rename_i y q hy;obtain⟨a1,a2,a3,a4⟩:=qm _ _ _ _ (Dk qk t1) hy
        split at h
        .rename_i qC;obtain⟨u1,u2,u3⟩:=Nu (C:=C) qC;cases h;refine⟨.idx hn a1,((u1.trans a2).trans t1).trans qe,by grind,?_⟩
         grind[Ek,Dt]
        grind
      .cases h;refine⟨.name hn,qe,by simp,?_⟩;rw[Ek];simp only[Dt,show((2:Int)=1)=False from eq_false AA,if_false,if_true];omega
     .split at h
      .split at h
       .cases h
       .rename_i y q hy;obtain⟨a1,a2,a3,a4⟩:=qm _ _ _ _ qk hy
        split at h
        .rename_i qC;obtain⟨u1,u2,u3⟩:=Nu (C:=C) qC;cases h;exact⟨a1,(u1.trans a2).trans qe,by grind,by omega⟩
        grind
      grind
/-! scanning gives right tokens -/
def Xw:∀ (n:Nat) (ln:Int) (l:List UInt8) (ts:List Tk),C2 n ln l=some ts->D7 ts
 | n,ln,[],ts,h=>by
  have:C2 n ln []=some []:=by cases n<;>rfl
  rw[this]at h;cases h;intro t ht;cases ht
 | 0,ln,c::r,ts,h=>by cases h
 | n+1,ln,c::r,ts,h=>by
  rw[C2]at h
  split at h
  .exact Xw n _ _ _ h
  .split at h
   .exact Xw n _ _ _ h
   .split at h
    .exact Xw n _ _ _ h
    .split at h
     .cases h
     .rename_i k w hf;simp only[Ck]at h;obtain⟨l,hl,rfl⟩:=h;intro t ht;rcases Bp.1 ht with rfl | ht
      .rw[Pz]at hf;simp only
       split at hf
       .rename_i hc
        split at hf
        .cases hf
        .rename_i qT;cases hf;refine⟨fun hk=>?_,fun hk=>?_⟩
         .split at hk
          .cases hk
          .rename_i qV;refine Amg (by simp[Ey]) AA (by grind) fun j hj=>?_
           have qw:∀ d∈Ey c r,H8 d=true:=fun d hd=>by
            rcases Bp.1 hd with rfl | hd
            .grind[Als]
            grind[Agn]
           cases j with
           | zero=>
            have h1:K0 c.toNat=true:=hc
            grind[I9,Ey]
           | succ j=>
            have hm:((Ey c r).getD (j+1) 0)∈Ey c r:=by rw[D3,Ca hj];exact Nl _
            have hi:=qw _ hm;unfold H8 Lv at hi;unfold I9
            grind
         omega
       .split at hf
        .rename_i hc
         split at hf
         .cases hf
         .split at hf
          .rename_i qK;cases hf;refine⟨(fun hk=>by cases hk),fun _=>?_⟩
           have hd:K2 (Ep c r):=fun d hd=>by
            rcases Bp.1 hd with rfl | hd
            .exact hc
            grind[Agn]
           rw[Ajz hd]at qK;have hv:=of_decide_eq_true qK
           grind[Akx,Ep]
          grind
        grind
      .exact Xw n _ _ _ hl t ht
/-! statements -/
def One(C:Nat)(ts r:List Tk):Prop:=r <:+ ts/\r.length+1=ts.length/\wt C ts=C+wt C r
def Auh(C:Nat)(t:Tk)(r:List Tk):One C (t::r) r:=⟨U3 t r,rfl,Vs C t r⟩
def Vd{C:Nat}{ts r:List Tk}{nm:List UInt8}(ht:D7 ts)(h:Da ts=some (nm,r)):Bm nm=true/\One C ts r:=by
 cases ts with
 | nil=>cases h
 | cons t ts=>
  unfold Da at h;simp only at h
  split at h
  .rename_i hk;cases h;exact⟨(ht t B7).1 hk,Auh C t _⟩
  grind
def M6{C:Nat}{s:List UInt8}{ts r:List Tk}(h:Dy s ts=some r):One C ts r:=by
 unfold Dy at h
 split at h
 .rename_i hs;cases h;obtain⟨h1,h2,h3⟩:=Nu (C:=C) hs;exact⟨h1,h2,h3⟩
 grind
def Ae0{C:Nat}{ts r:List Tk}{n:Int}(ht:D7 ts)(h:He ts=some (n,r)):(0<=n/\n<=9223372036854775807)/\One C ts r:=by
 cases ts with
 | nil=>cases h
 | cons t ts=>
  unfold He at h;simp only at h
  split at h
  .rename_i hk;cases h;exact⟨(ht t B7).2 hk,Auh C t _⟩
  grind
def Ajf:∀ {l:List (List UInt8 × Int)} {s:List UInt8} {v:Int},l.lookup s=some v->∃ a,(a,v)∈l
 | [],_,_,h=>by cases h
 | (a,w)::l,s,v,h=>by
  rw[Aip]at h
  split at h
  .grind
  .obtain⟨b,hb⟩:=Ajf h;grind
def Aui(s:List UInt8):D8 s=0\/(2<=D8 s/\D8 s<=15):=by
 unfold D8
 cases h:wordTab.lookup s with
 | none=>grind
 | some v=>
  obtain⟨a,ha⟩:=Ajf h;have:(wordTab.all fun p=>decide (2<=p.2/\p.2<=15))=true:=by decide
  grind
def Auj(s:List UInt8):G8 s=0\/(1<=G8 s/\G8 s<=6):=by
 unfold G8
 cases h:declTab.lookup s with
 | none=>grind
 | some v=>
  obtain⟨a,ha⟩:=Ajf h;have:(declTab.all fun p=>decide (1<=p.2/\p.2<=6))=true:=by decide
  grind
def N1(s:Sp):Nat:=if Em s.op then s.ex.txt.length else 0
def Bex(op:Int):(Cp op).length<=11:=by
 unfold Cp
 split<;>simp
def Bey(s:Sp):(Cq s).length<=20+s.nm.length+s.arg.length+(E7 s.idx).length+N1 s:=by
 have hw:=Bex s.op;unfold Cq N1 Em
 grind
def Bkw(d:Nat)(s:Sp):(s.txt d).length<=6*d+40+s.nm.length+s.arg.length+(E7 s.idx).length+N1 s+(if Bv s.op then(Sp.txts (d+1) s.body).length+(Sp.txts (d+1) s.els).length else 0):=by
 have hh:=Bey s;rw[Ns]
 have h5:(if s.els.isEmpty=true then [] else Eh d++125::32::101::108::115::101::32::123::10::Sp.txts (d+1) s.els).length<=2*d+9+(Sp.txts (d+1) s.els).length:=by
  split
  .simp
  .simp[Li];omega
 cases Bv s.op
 .simp only[Ar,Li,Hh,if_false,Ao,Di];omega
 .simp only[Ar,Li,if_true,Ao,Di];omega
def SQ(M C:Nat)(ts:List Tk)(s:Sp)(r:List Tk):Prop:=ShS s/\r <:+ ts/\r.length<ts.length/\s.sz+r.length<=ts.length/\∀ d,d+ts.length<=M->(s.txt d).length+wt C r<=wt C ts
def LQ(M C:Nat)(ts:List Tk)(l:List Sp)(r:List Tk):Prop:=(∀ s∈l,ShS s)/\r <:+ ts/\r.length<ts.length/\Sp.szs l+r.length<ts.length/\∀ d,d+ts.length<=M->(Sp.txts d l).length+wt C r<=wt C ts
def Ud{M C:Nat}(hC:100+8*M<=C){ts r:List Tk}{s:Sp}(hs:ShS s)(h1:r <:+ ts)(h2:r.length<ts.length)(h3:Sp.szs s.body+Sp.szs s.els+1+r.length<=ts.length)
  (h4:∀ d,d+ts.length<=M->C+(E7 s.idx).length+N1 s+((Sp.txts (d+1) s.body).length+(Sp.txts (d+1) s.els).length)+wt C r<=wt C ts):SQ M C ts s r:=by
 refine⟨hs,h1,h2,by grind[Mg],fun d hd=>?_⟩;have h5:=h4 d hd;have h6:=Bkw d s
 have h7:s.nm.length<=12/\s.arg.length<=12:=by
  cases hs with
  | mk a1 a2 a3 a4 a5 _ _ _ _ _ _ _ _ _=>
   constructor
   .cases hn:F6 s.op
    .grind[We]
    grind
   .by_cases ha:s.op=15
    .grind[We]
    grind
 grind
theorem A4e{M C:Nat}(hC:100+8*M<=C){n:Nat}{line:Int}{ts:List Tk}{s:Sp}{r:List Tk}(ht:D7 ts)(h:Se n line ts=some (s,r)):SQ M C ts s r:=by
 unfold Se at h
 split at h
 .cases h
 rename_i nm t1 hn;obtain⟨n1,n2,n3,n4⟩:=Vd (C:=C) ht hn;have qh:=Dk ht n2
 split at h
 .cases h
 rename_i ix t2 hi
 have qO:ix.length<=1/\(∀ x∈ix,ShE x)/\t2 <:+ t1/\t2.length<=t1.length/\(E7 ix).length+wt C t2<=wt C t1:=by
  unfold Acr at hi
  split at hi
  .rename_i hs;obtain⟨u1,u2,u3⟩:=Nu (C:=C) hs
   split at hi
   .cases hi
   .rename_i x q hx;obtain⟨a1,a2,a3,a4⟩:=(Xl (C:=C) AA n).1 _ _ _ _ (Dk qh u1) hx;simp only[Ck]at hi;obtain⟨q',hq,hi⟩:=hi;cases hi;obtain⟨b1,b2,b3⟩:=M6 (C:=C) hq
    grind[Akr]
  .simp_all [E7]
 obtain⟨i1,i2,i3,i4,i5⟩:=qO;have qD:=Dk qh i3
 split at h
 .cases h
 rename_i t3 h3;obtain⟨c1,c2,c3⟩:=M6 (C:=C) h3;have qP:=Dk qD c1
 split at h
 .cases h
 rename_i x t4 hx;obtain⟨a1,a2,a3,a4⟩:=(Xl (C:=C) AA n).1 _ _ _ _ qP hx;simp only[Ck]at h;obtain⟨t5,h5,h⟩:=h;cases h;obtain⟨d1,d2,d3⟩:=M6 (C:=C) h5;refine Ud hC (.mk ⟨by simp[An],by simp[An]⟩ (by simp[An,F6]) (fun _=>n1) AL AL i1 AL i2 (fun _=>a1) (by simp[An,Em]) AL AL AL AL) ((((d1.trans a2).trans c1).trans i3).trans n2) AA (by grind[An,Sp.szs]) fun d hd=>?_
 grind[An,N1,Sp.txts]
def Ae1{M C:Nat}(hC:100+8*M<=C):∀ n,(∀ ts s r,D7 ts->F4 n ts=some (s,r)->SQ M C ts s r)/\(∀ ts l r,D7 ts->Fa n ts=some (l,r)->LQ (M+1) C ts l r)/\(∀ ts l r,D7 ts->K8 n ts=some (l,r)->LQ M C ts l r)
 | 0=>⟨fun _ _ _ _ h=>by grind[F4],fun _ _ _ _ h=>by grind[Fa],fun _ _ _ _ h=>by grind[K8]⟩
 | n+1=>by
  obtain⟨qm,qo,qt⟩:=Ae1 hC n;refine⟨fun ts s r ht h=>?_,fun ts l r ht h=>?_,fun ts l r ht h=>?_⟩
  .cases ts with
   | nil=>grind[F4]
   | cons t ts=>
    have hw:=Vs C t ts;have qe:=U3 t ts;have qk:=Dk ht qe;rw[F4]at h
    split at h
    .grind[A4e]
    split at h
    rotate_left
    .cases h
    have hr:=Aui t.text;generalize D8 t.text=w at h hr
    split at h
    .cases h
    split at h
    .rename_i qi
     split at h
     .cases h
     rename_i x t1 hx;obtain⟨a1,a2,a3,a4⟩:=(Xl (C:=C) AA n).1 _ _ _ _ qk hx;have qh:=Dk qk a2
     split at h
     .cases h
     rename_i b t2 hb;obtain⟨b1,b2,b3,b4,b5⟩:=qo _ _ _ qh hb;have qD:=Dk qh b2
     split at h
     .rename_i qQ;obtain⟨rfl,hs⟩:=qQ;obtain⟨u1,u2,u3⟩:=Nu (C:=C) hs
      split at h
      .cases h
      rename_i e t3 he;obtain⟨e1,e2,e3,e4,e5⟩:=qo _ _ _ (Dk qD u1) he;cases h;refine Ud hC (.mk ⟨by simp[An],by simp[An]⟩ AL (by simp[An,F6]) AL AL AL AL AL (fun _=>a1) (by simp[An,Em]) (by simp[An,Bv]) AL b1 e1) ((((e2.trans u1).trans b2).trans a2).trans qe) (by grind) (by grind) fun d hd=>?_
      grind[An,N1,E7]
     .cases h;refine Ud hC (.mk (by grind[An]) AL (by rcases qi with rfl | rfl<;>simp[An,F6]) (by grind[An]) AL AL AL AL (fun _=>a1) (by rcases qi with rfl | rfl<;>simp[An,Em]) (by rcases qi with rfl | rfl<;>simp[An,Bv]) AL b1 AL) ((b2.trans a2).trans qe) (by grind) (by grind[An,Sp.szs]) fun d hd=>?_
      rw[Ao]at hd;have:=b5 (d+1) AA
      have:Em w=true:=by rcases qi with rfl | rfl<;>rfl
      simp only[An,N1,this,E7,Di,if_true,Sp.txts];omega
    .split at h
     .rename_i qj
      split at h
      .cases h
      rename_i b t2 hb;obtain⟨b1,b2,b3,b4,b5⟩:=qo _ _ _ qk hb;cases h;refine Ud hC (.mk (by grind[An]) AL (by rcases qj with rfl | rfl<;>simp[An,F6]) (by grind[An]) AL AL AL AL (by rcases qj with rfl | rfl<;>simp[An,Em]) (fun _=>⟨rfl,rfl,rfl,rfl⟩) (by rcases qj with rfl | rfl<;>simp[An,Bv]) AL b1 AL) (b2.trans qe) (by grind) (by grind[An,Sp.szs]) fun d hd=>?_
      rw[Ao]at hd;have:=b5 (d+1) AA
      have:Em w=false:=by rcases qj with rfl | rfl<;>rfl
      simp only[An,N1,this,E7,Di,Hh,if_false,Sp.txts];omega
     .split at h
      .cases h
      rename_i nm t1 hn;obtain⟨n1,n2,n3,n4⟩:=Vd (C:=C) qk hn;have qh:=Dk qk n2
      split at h
      .rename_i qf
       split at h
       .cases h
       rename_i b t2 hb;obtain⟨b1,b2,b3,b4,b5⟩:=qo _ _ _ qh hb;cases h;refine Ud hC (.mk (by grind[An]) (by rcases qf with rfl | rfl | rfl<;>simp[An,F6]) (fun _=>n1) (by grind[An]) AL AL AL AL (by rcases qf with rfl | rfl | rfl<;>simp[An,Em]) (fun _=>⟨rfl,rfl,rfl,rfl⟩) (by rcases qf with rfl | rfl | rfl<;>simp[An,Bv]) AL b1 AL) ((b2.trans n2).trans qe) (by grind) (by grind[An,Sp.szs]) fun d hd=>?_
       rw[Ao]at hd;have:=b5 (d+1) AA
       have:Em w=false:=by rcases qf with rfl | rfl | rfl<;>rfl
       simp only[An,N1,this,E7,Di,Hh,if_false,Sp.txts];omega
      .split at h
       .rename_i qE;subst qE
        split at h
        .cases h
        rename_i x t2 hx;obtain⟨a1,a2,a3,a4⟩:=(Xl (C:=C) AA n).1 _ _ _ _ qh hx;simp only[Ck]at h;obtain⟨t3,h3,h⟩:=h;cases h;obtain⟨d1,d2,d3⟩:=M6 (C:=C) h3;refine Ud hC (.mk ⟨by simp[An],by simp[An]⟩ (by simp[An,F6]) (fun _=>n1) AL AL AL AL AL (fun _=>a1) (by simp[An,Em]) AL AL AL AL) (((d1.trans a2).trans n2).trans qe) (by grind) (by grind[An,Sp.szs]) fun d hd=>?_
        grind[An,N1,E7,Sp.txts]
       .split at h
        .rename_i qF;subst qF
         split at h
         .cases h
         rename_i ar t2 ha;obtain⟨a1,a2,a3,a4⟩:=Vd (C:=C) qh ha;simp only[Ck]at h;obtain⟨t3,h3,h⟩:=h;cases h;obtain⟨d1,d2,d3⟩:=M6 (C:=C) h3;refine Ud hC (.mk ⟨by simp[An],by simp[An]⟩ (by simp[An,F6]) (fun _=>n1) (fun _=>a1) AL AL AL AL (by simp[An,Em]) (fun _=>⟨rfl,rfl,rfl,rfl⟩) AL AL AL AL) (((d1.trans a2).trans n2).trans qe) (by grind) (by grind[An,Sp.szs]) fun d hd=>?_
         grind[An,N1,Em,E7,Sp.txts]
        .simp only[Ck]at h;obtain⟨t3,h3,h⟩:=h;cases h;obtain⟨d1,d2,d3⟩:=M6 (C:=C) h3;have qG:w=9\/w=10\/w=11\/w=12\/w=13:=by omega
         refine Ud hC (.mk (by grind[An]) (by rcases qG with rfl | rfl | rfl | rfl | rfl<;>simp[An,F6]) (fun _=>n1) (by grind[An]) AL AL AL AL (by rcases qG with rfl | rfl | rfl | rfl | rfl<;>simp[An,Em]) (fun _=>⟨rfl,rfl,rfl,rfl⟩) AL AL AL AL) ((d1.trans n2).trans qe) (by grind) (by grind[An,Sp.szs]) fun d hd=>?_
         have:Em w=false:=by rcases qG with rfl | rfl | rfl | rfl | rfl<;>rfl
         simp only[An,N1,this,E7,Di,Hh,if_false,Sp.txts];omega
  .rw[Fa]at h
   split at h
   .rename_i hs;obtain⟨u1,u2,u3⟩:=Nu (C:=C) hs;obtain⟨b1,b2,b3,b4,b5⟩:=qt _ _ _ (Dk ht u1) h;exact⟨b1,b2.trans u1,by omega,by omega,fun d hd=>by grind⟩
   grind
  .rw[K8]at h
   split at h
   .rename_i hs;obtain⟨u1,u2,u3⟩:=Nu (C:=C) hs;cases h;exact⟨by simp,u1,by omega,by grind[Sp.szs],fun d hd=>by grind[Sp.txts]⟩
   .split at h
    .cases h
    rename_i s t1 hs;obtain⟨a1,a2,a3,a4,a5⟩:=qm _ _ _ ht hs
    split at h
    .cases h
    rename_i l' t2 hl;obtain⟨b1,b2,b3,b4,b5⟩:=qt _ _ _ (Dk ht a2) hl;cases h;refine⟨fun x hx=>?_,b2.trans a2,by omega,by grind[Sp.szs],fun d hd=>?_⟩
    .grind
    grind[Ou]
def By{α:Type}(p:α->Bool):List α->Int
 | [] => -1
 | a::l=>if p a then 0 else if By p l<0 then -1 else By p l+1
def Afq{α:Type}(p:α->Bool):∀ l:List α,-1<=By p l/\By p l<l.length
 | []=>by simp[By]
 | a::l=>by
  have:=Afq p l
  grind[By]
def Afr{α:Type}{p:α->Bool}:∀ {l:List α} {i:Nat} {a:α},(∀ b∈l.take i,p b=false)->l[i]?=some a->p a=true->By p l=i
 | [],i,a,_,h,_=>by simp at h
 | b::l,0,a,_,h,hp=>by
  grind[By]
 | b::l,i+1,a,hn,h,hp=>by
  have h1:=Afr (l:=l) (i:=i) (a:=a) (fun c hc=>hn c (by simp[hc])) (by grind) hp
  grind[By]
def Ae2{α:Type}{p:α->Bool}:∀ {l:List α},(∀ b∈l,p b=false)->By p l = -1
 | [],_=>rfl
 | b::l,h=>by
  simp only[By,h b AE,Ae2 (l:=l) fun c hc=>h c (by simp[hc])];simp
def Afs{α:Type}{p:α->Bool}{l:List α}(h:0<=By p l):∃ (i:Nat) (a:α),By p l=i/\l[i]?=some a/\i<l.length:=by
 have h2:=(Afq p l).2;obtain⟨i,hi⟩:∃ i:Nat,By p l=i:=⟨(By p l).toNat,by omega⟩;exact⟨i,l[i]' AA,hi,Ca AA,by omega⟩
def Aj2{α:Type}{p:α->Bool}{l:List α}{i:Nat}{a:α}(h:∀ b∈l.take i,p b=false)(ha:l[i]?=some a)(hp:p a=false):∀ b∈l.take (i+1),p b=false:=by
 grind[List.take_succ]
def X7(z:Bool)(t:Nat)(l:List (List UInt8))(s:List UInt8)(hl:l.length<=9223372036854775806):Fn TT PT 127 [SL z t (l.map fun x=>[V.str x]),.str s] (iV (By (·==s) l)):=by
 have n1:(l.map fun x=>[V.str x]).length=l.length:=Au ..;refine Bj T127 rfl ?_;simp only[go_sem];refine Bk (α:=Nat) (fun i=>l.length - i) (fun i=>[(0,SL z t (l.map fun x=>[V.str x])),(1,.str s),(5,iV (i:Int))]) (fun _=>[]) (fun i=>i<=l.length/\∀ b∈l.take i,(b==s)=false) ?_ 0 ⟨Ax _,by simp⟩;rintro i ⟨hi,hc⟩ ih;refine Bd Bju ?_;rcases Bh i l.length with h' | h'
 .obtain⟨x,hx,-,-⟩:=Bq h';cases hp:(x==s)
  .simp only[go_sem,n1,Ay h',As,hx,hp,A1 (show i<9223372036854775807 by omega)];exact Aq (ih (i+1) AA ⟨h',Aj2 hc hx hp⟩) rfl
  .rw[Afr hc hx hp];simp only[go_sem,n1,Ay h',As,hx,hp];exact Ah rfl rfl
 .rw[Jb h']at hc;rw[Ae2 hc];simp only[go_sem,n1,Bl h'];exact Ah rfl rfl
def X8(z:Bool)(t:Nat)(l:List Dp)(s:List UInt8)(hl:l.length<=9223372036854775806):Fn TT PT 125 [SL z t (l.map Dp.row),.str s] (iV (By (fun d:Dp=>d.nm==s) l)):=by
 have n1:(l.map Dp.row).length=l.length:=Au ..;refine Bj T125 rfl ?_;simp only[go_sem];refine Bk (α:=Nat) (fun i=>l.length - i) (fun i=>[(0,SL z t (l.map Dp.row)),(1,.str s),(5,iV (i:Int))]) (fun _=>[]) (fun i=>i<=l.length/\∀ b∈l.take i,(b.nm==s)=false) ?_ 0 ⟨Ax _,by simp⟩;rintro i ⟨hi,hc⟩ ih;refine Bd Bjs ?_;rcases Bh i l.length with h' | h'
 .obtain⟨x,hx,-,-⟩:=Bq h';have qc:x.row=[iV x.kind,iV x.line,.str x.nm,iV x.size,iV x.init,.str x.on]:=rfl;cases hp:(x.nm==s)
  .simp only[go_sem,n1,Ay h',As,hx,qc,hp,A1 (show i<9223372036854775807 by omega)];exact Aq (ih (i+1) AA ⟨h',Aj2 (p:=fun d:Dp=>d.nm==s) hc hx hp⟩) rfl
  .rw[Afr (p:=fun d:Dp=>d.nm==s) hc hx hp];simp only[go_sem,n1,Ay h',As,hx,qc,hp];exact Ah rfl rfl
 .rw[Jb h']at hc;rw[Ae2 hc];simp only[go_sem,n1,Bl h'];exact Ah rfl rfl
def Ago(z:Bool)(t:Nat)(l:List Tp)(s:List UInt8)(hl:l.length<=9223372036854775806):Fn TT PT 126 [SL z t (l.map Tp.row),.str s] (iV (By (fun d:Tp=>d.nm==s) l)):=by
 have n1:(l.map Tp.row).length=l.length:=Au ..;refine Bj T126 rfl ?_;simp only[go_sem];refine Bk (α:=Nat) (fun i=>l.length - i) (fun i=>[(0,SL z t (l.map Tp.row)),(1,.str s),(5,iV (i:Int))]) (fun _=>[]) (fun i=>i<=l.length/\∀ b∈l.take i,(b.nm==s)=false) ?_ 0 ⟨Ax _,by simp⟩;rintro i ⟨hi,hc⟩ ih;refine Bd Bjt ?_;rcases Bh i l.length with h' | h'
 .obtain⟨x,hx,-,-⟩:=Bq h';have qc:x.row=(tR x):=rfl;cases hp:(x.nm==s)
  .simp only[go_sem,n1,Ay h',As,hx,qc,hp,A1 (show i<9223372036854775807 by omega)];exact Aq (ih (i+1) AA ⟨h',Aj2 (p:=fun d:Tp=>d.nm==s) hc hx hp⟩) rfl
  .rw[Afr (p:=fun d:Tp=>d.nm==s) hc hx hp];simp only[go_sem,n1,Ay h',As,hx,qc,hp];exact Ah rfl rfl
 .rw[Jb h']at hc;rw[Ae2 hc];simp only[go_sem,n1,Bl h'];exact Ah rfl rfl
structure LnG (p:Gp):Prop where
 d:p.decls.length<=1000000000
 t:p.thrs.length<=1000000000
 l:∀ t∈p.thrs,t.locals.length<=1000000000
def Ay5{α:Type}{p:α->Bool}{l:List α}(h:¬ 0<=By p l):By p l = -1:=by
 have:=Afq p l;omega
def Ahi(x:Gp):x.row.all V.rowB=true:=by
 grind[Gp.row,Hq]
def Bez{a b:V}(h:[a,b].all V.rowB=true):a.cellB=true/\b.cellB=true:=by
 have h:=Vv h
 grind
def Wf(x:Gp):x.row=(gR x):=rfl
def Pb{R:V->Prop}{f p:Nat}{res:List AR}{body:AC}{vs:List V}(hT:TT f=some ⟨p,res,false,body,none⟩)(hl:vs.length=p)(h:W TT PT [.c body] (C6 0 vs) [] (Hd fun e' σ1=>∃ v,Cd e' σ1 res=some v/\(Cg v=true/\v.refs=[]/\Eg [] v=some v)/\R v)):∃ v,Fn TT PT f vs v/\R v:=by
 obtain⟨e',σ',hE,v,hr,h1,h2⟩:=h;exact⟨v,As5 hT rfl rfl hl ⟨e',σ',hE,v,hr,h1⟩,h2⟩
set_option maxHeartbeats 1000000 in
def Be0{p:Gp}(hp:LnG p)(th:Int)(s:List UInt8):∃ v,Fn TT PT 183 [.agg p.row,iV th,.str s] v/\∃ k:Int,v=iV k/\(k=5->0<=By (fun d:Dp=>d.nm==s) p.decls):=by
 obtain⟨dz,dt,decls,tz,tt,thrs⟩:=p;obtain⟨h1,h2,h3⟩:=hp;simp only at h1 h2 h3 ⊢;unfold Gp.row;simp only;have n1:(decls.map Dp.row).length=decls.length:=Au ..;have n2:(thrs.map Tp.row).length=thrs.length:=Au ..;have hd:=X8 dz dt decls s AA;have ht:=Ago tz tt thrs s AA;refine Pb T183 rfl ?_;refine F1 (fun e σ=>e=[(1,iV th),(2,.str s),(3,.ptr 0 0 0)]/\σ=[.row [SL dz dt (decls.map Dp.row),SL tz tt (thrs.map Tp.row)] 29 0 0]) (fun k' hk=>?_) ?_
 .simp only[go_sem];exact hk _ _ ⟨rfl,rfl⟩
 rintro e σ ⟨rfl,rfl⟩;refine F1 (fun e σ=>e=[(2,.str s),(3,.ptr 0 0 0)]/\σ=[.row [SL dz dt (decls.map Dp.row),SL tz tt (thrs.map Tp.row)] 29 0 0]) (fun k' hk=>?_) ?_
 .by_cases c1:0<=th
  .have f1:((0:Int)<=th)=True:=eq_true c1;by_cases c2:th<thrs.length
   .obtain⟨i,rfl⟩:∃ i:Nat,th=i:=⟨th.toNat,by omega⟩;have f2:((i:Int)<(thrs.length:Int))=True:=eq_true c2;obtain⟨x,hx,-,hm⟩:=Bq (l:=thrs) (i:=i) AA;have qc:x.row=(tR x):=rfl;have ha:=X7 x.lz x.lt x.locals s (by grind);simp only[go_sem,f1,f2,n2,As,hx,qc,ge_iff_le];refine Ab ha AB ?_;by_cases c3:0<=By (·==s) x.locals
    .have f3:(0<=By (·==s) x.locals)=True:=eq_true c3;simp only[go_sem,f3,ge_iff_le];exact⟨_,rfl,⟨rfl,rfl,rfl⟩,8,rfl,by omega⟩
    .have f3:(0<=By (·==s) x.locals)=False:=eq_false c3;simp only[go_sem,f3,ge_iff_le];exact hk _ _ ⟨rfl,rfl⟩
   .have f2:(th<(thrs.length:Int))=False:=eq_false c2;simp only[go_sem,f1,f2,n2,ge_iff_le];exact hk _ _ ⟨rfl,rfl⟩
  .have f1:((0:Int)<=th)=False:=eq_false c1;simp only[go_sem,f1,ge_iff_le];exact hk _ _ ⟨rfl,rfl⟩
 rintro e σ ⟨rfl,rfl⟩;by_cases c:0<=By (fun d:Dp=>d.nm==s) decls
 .obtain⟨i,x,e,hx,hi⟩:=Afs c;rw[e]at hd;have f1:((i:Int)<0)=False:=eq_false AA;have qc:x.row=[iV x.kind,iV x.line,.str x.nm,iV x.size,iV x.init,.str x.on]:=rfl;simp only[go_sem];refine Ab hd AB ?_;by_cases k1:x.kind=1
  .have q1:(x.kind==1)=true:=by simp[k1]
   cases q5:(x.size==0)
   .simp only[go_sem,f1,As,hx,qc,q1,q5,bne,A2];exact⟨_,rfl,⟨rfl,rfl,rfl⟩,2,rfl,by omega⟩
   .simp only[go_sem,f1,As,hx,qc,q1,q5,bne,A0];exact⟨_,rfl,⟨rfl,rfl,rfl⟩,1,rfl,by omega⟩
  have q1:(x.kind==1)=false:=by simp[k1]
  cases q2:(x.kind==2);rotate_left
  .simp only[go_sem,f1,As,hx,qc,q1,q2];exact⟨_,rfl,⟨rfl,rfl,rfl⟩,1,rfl,by omega⟩
  cases q3:(x.kind==3);rotate_left
  .simp only[go_sem,f1,As,hx,qc,q1,q2,q3];exact⟨_,rfl,⟨rfl,rfl,rfl⟩,_,rfl,fun _=>c⟩
  cases q4:(x.kind==4);rotate_left
  .simp only[go_sem,f1,As,hx,qc,q1,q2,q3,q4];exact⟨_,rfl,⟨rfl,rfl,rfl⟩,_,rfl,fun _=>c⟩
  cases q5:(x.kind==5);rotate_left
  .simp only[go_sem,f1,As,hx,qc,q1,q2,q3,q4,q5];exact⟨_,rfl,⟨rfl,rfl,rfl⟩,_,rfl,fun _=>c⟩
  cases q6:(x.kind==6)
  .simp only[go_sem,f1,As,hx,qc,q1,q2,q3,q4,q5,q6];exact⟨_,rfl,⟨rfl,rfl,rfl⟩,_,rfl,fun _=>c⟩
  .simp only[go_sem,f1,As,hx,qc,q1,q2,q3,q4,q5,q6];exact⟨_,rfl,⟨rfl,rfl,rfl⟩,_,rfl,fun _=>c⟩
 .rw[Ay5 c]at hd;simp only[go_sem];refine Ab hd AB ?_;simp only[go_sem,Int.reduceLT,Int.reduceNeg];refine Ab ht AB ?_;by_cases c3:0<=By (fun d:Tp=>d.nm==s) thrs
  .have f3:(0<=By (fun d:Tp=>d.nm==s) thrs)=True:=eq_true c3;simp only[go_sem,f3,ge_iff_le];exact⟨_,rfl,⟨rfl,rfl,rfl⟩,7,rfl,by omega⟩
  .have f3:(0<=By (fun d:Tp=>d.nm==s) thrs)=False:=eq_false c3;simp only[go_sem,f3,ge_iff_le];exact⟨_,rfl,⟨rfl,rfl,rfl⟩,0,rfl,by omega⟩
def O5{p:Gp}(hp:LnG p)(th:Int)(s:List UInt8)(a b:Int):∃ v,Fn TT PT 157 [.agg p.row,iV th,.str s,iV a,iV b] v/\∃ e:Int,v=iV e/\(a=5->b=5->e=0->0<=By (fun d:Dp=>d.nm==s) p.decls):=by
 obtain⟨_,hk,k,rfl,h5⟩:=Be0 hp th s;rw[Wf]at hk ⊢;refine Pb T157 rfl ?_;simp only[go_sem];refine Ab hk AB ?_;by_cases k0:k=0
 .have q0:(k==0)=true:=by simp[k0]
  simp only[go_sem,q0];exact⟨_,rfl,⟨rfl,rfl,rfl⟩,5,rfl,by omega⟩
 have q0:(k==0)=false:=by simp[k0]
 by_cases ka:k=a
 .have qa:(k==a)=true:=by simp[ka]
  simp only[go_sem,q0,qa,bne,A0];exact⟨_,rfl,⟨rfl,rfl,rfl⟩,0,rfl,fun e _ _=>h5 AA⟩
 have qa:(k==a)=false:=by simp[ka]
 by_cases kb:k=b
 .have qb:(k==b)=true:=by simp[kb]
  simp only[go_sem,q0,qa,qb,bne,A0,A2];exact⟨_,rfl,⟨rfl,rfl,rfl⟩,0,rfl,fun _ e _=>h5 AA⟩
 have qb:(k==b)=false:=by simp[kb]
 simp only[go_sem,q0,qa,qb,bne,A0,A2];exact⟨_,rfl,⟨rfl,rfl,rfl⟩,6,rfl,by omega⟩
def Auk:∀ (N:Nat) (x:Xp),C5 x.row<=N->N<=1000000000->∃ v,Fn TT PT 184 [.agg x.row] v/\∃ n d:Int,v=.tup [iV n,iV d]
 | 0,x,h,_=>by grind[G9]
 | N+1,x,h,hN=>by
  have h1:=G9 x;have h2:=Mb (f:=Xp.row) (fun x=>by grind[G9]) x.l;have qd:(x.l.map Xp.row).length=x.l.length:=Au ..;have hx:=Dw x;rw[Bi]at hx ⊢;refine Pb T184 rfl ?_;simp only[go_sem];refine Bk (α:=Nat × Int × Int) (fun a=>x.l.length - a.1) (fun a=>[(1,.ptr 0 0 0),(4,iV a.2.1),(5,iV a.2.2),(6,iV (a.1:Int))]) (fun _=>[xO x]) (fun a=>a.1<=x.l.length) ?_ (0,1,0) (Ax _);rintro⟨i,n,d⟩ hi ih;simp only at hi ih;refine Bd Bj0 ?_;rcases Bh i x.l.length with h' | h'
  .obtain⟨y,hy,-,hm⟩:=Bq h';have hb:=J1 (f:=Xp.row) hm;obtain⟨_,hf,n',d',rfl⟩:=Auk N y AA AA;have qH:=Dw y;have qr:=Bi y;rw[qr]at hf qH;simp only[go_sem,qd,Ay h',As,hy,qr];refine Ab hf (by grind) ?_;simp only[go_sem,A1 (show i<9223372036854775807 by omega)];exact Aq (ih (i+1,IntKind.i64.wrap (n+n'),max d d') AA h') rfl
  .simp only[go_sem,qd,Bl h'];exact⟨_,rfl,⟨rfl,rfl,rfl⟩,_,_,rfl⟩
def Aul{p:Gp}(hp:LnG p)(th:Int):∀ (N:Nat) (x:Xp),C5 x.row<=N->N<=1000000000->∃ v,Fn TT PT 185 [.agg p.row,iV th,.agg x.row] v/\∃ r:Int,v=iV r
 | 0,x,h,_=>by grind[G9]
 | N+1,x,h,hN=>by
  have h1:=G9 x;have h2:=Mb (f:=Xp.row) (fun x=>by grind[G9]) x.l;have qd:(x.l.map Xp.row).length=x.l.length:=Au ..;have hx:=Dw x;have ih:∀ y∈x.l,∃ v,Fn TT PT 185 [.agg p.row,iV th,.agg y.row] v/\∃ r:Int,v=iV r:=fun y hy=>Aul hp th N y (by grind[J1]) AA
  obtain⟨_,w1,r1,rfl,-⟩:=O5 hp th x.nm 8 1;obtain⟨_,w2,r2,rfl,-⟩:=O5 hp th x.nm 2 2;rw[Bi]at hx ⊢;have qz:=Ahi p;rw[Wf]at ih w1 w2 qz ⊢;refine Pb T185 rfl ?_;refine F1 (fun e σ=>e=[(1,iV th),(3,.ptr 0 0 0),(5,.ptr 1 0 0)]/\σ=[gO p,xO x]) (fun k' hk=>?_) ?_
  .simp only[go_sem];exact hk _ _ ⟨rfl,rfl⟩
  rintro e σ ⟨rfl,rfl⟩;refine F1 (fun e σ=>e=[(1,iV th),(3,.ptr 0 0 0),(5,.ptr 1 0 0),(7,iV 0)]/\σ=[gO p,xO x]) (fun k' hk=>?_) ?_
  .simp only[go_sem];exact hk _ _ ⟨rfl,rfl⟩
  rintro e σ ⟨rfl,rfl⟩;refine F1 (fun e σ=>∃ (r:Int) (X:V),(e=[(1,iV th),(3,.ptr 0 0 0),(5,.ptr 1 0 0),(7,iV r)]\/e=[(1,iV th),(3,.ptr 0 0 0),(5,.ptr 1 0 0),(7,iV r),(10,X)])/\σ=[gO p,xO x]) (fun k' hk=>?_) ?_
  .by_cases o2:x.op=2
   .have q2:(x.op==2)=true:=by simp[o2]
    simp only[go_sem,q2];refine Ab w1 AB ?_;simp only[go_sem];exact hk _ _ ⟨_,_,.inr rfl,rfl⟩
   have q2:(x.op==2)=false:=by simp[o2]
   by_cases o3:x.op=3
   .have q3:(x.op==3)=true:=by simp[o3]
    simp only[go_sem,q2,q3];refine Ab w2 AB ?_;simp only[go_sem];exact hk _ _ ⟨_,.und,.inl rfl,rfl⟩
   have q3:(x.op==3)=false:=by simp[o3]
   simp only[go_sem,q2,q3];exact hk _ _ ⟨_,.und,.inl rfl,rfl⟩
  rintro e σ ⟨r,X,he,rfl⟩;rcases he with rfl | rfl
  all_goals
   simp only[go_sem];refine Bk (α:=Nat × Int) (fun a=>x.l.length - a.1) (fun a=>[(1,iV th),(3,.ptr 0 0 0),(5,.ptr 1 0 0),(7,iV a.2),(8,iV (a.1:Int))]) (fun _=>[gO p,xO x]) (fun a=>a.1<=x.l.length) ?_ (0,r) (Ax _);rintro⟨i,r⟩ hi jh;simp only at hi jh;refine Bd Bj1 ?_;rcases Bh i x.l.length with h' | h'
   .cases r0:(r==0)
    .simp only[go_sem,qd,Ay h',r0];exact⟨_,rfl,⟨rfl,rfl,rfl⟩,_,rfl⟩
    .obtain⟨y,hy,-,hm⟩:=Bq h';obtain⟨_,hf,r',rfl⟩:=ih y hm;have qH:=Dw y;have qr:=Bi y;rw[qr]at hf qH;simp only[go_sem,qd,Ay h',r0];refine Af AD ?_;simp only[go_sem,qd,As,hy,qr];refine Bg hf AB ?_;simp only[go_sem,A1 (show i<9223372036854775807 by omega)];exact Aq (jh (i+1,r') AA h') rfl
   .simp only[go_sem,qd,Bl h'];exact⟨_,rfl,⟨rfl,rfl,rfl⟩,_,rfl⟩
def Aum{p:Gp}(hp:LnG p)(th:Int)(x:Xp)(h:C5 x.row<=1000000000):∃ v,Fn TT PT 158 [.agg p.row,iV th,.agg x.row] v/\∃ r:Int,v=iV r:=by
 have hs:=Agl _ x h (Ak _);obtain⟨_,hn,n,d,rfl⟩:=Auk _ x h (Ak _);obtain⟨_,hm,r,rfl⟩:=Aul hp th _ x h (Ak _);have hx:=Dw x;have qz:=Ahi p;rw[Bi]at hx hs hn hm ⊢;rw[Wf]at hm qz ⊢;refine Pb T158 rfl ?_;cases b:Hu x
 .rw[b]at hs;simp only[go_sem];refine Ab hs (by grind) ?_;simp only[go_sem,A2];exact⟨_,rfl,⟨rfl,rfl,rfl⟩,_,rfl⟩
 rw[b]at hs;simp only[go_sem];refine Ab hs (by grind) ?_;simp only[go_sem,A0];refine Ab hn (by grind) ?_;by_cases c1:24<n
 .have f1:((24:Int)<n)=True:=eq_true c1;simp only[go_sem,gt_iff_lt,f1];exact⟨_,rfl,⟨rfl,rfl,rfl⟩,_,rfl⟩
 have f1:((24:Int)<n)=False:=eq_false c1;by_cases c2:6<d
 .have f2:((6:Int)<d)=True:=eq_true c2;simp only[go_sem,gt_iff_lt,f1,f2];exact⟨_,rfl,⟨rfl,rfl,rfl⟩,_,rfl⟩
 have f2:((6:Int)<d)=False:=eq_false c2;simp only[go_sem,gt_iff_lt,f1,f2];refine Ab hm AB ?_;simp only[go_sem];exact⟨_,rfl,⟨rfl,rfl,rfl⟩,_,rfl⟩
def Hn(b:Bool):∃ v,Fn TT PT 159 [.bool b] v/\∃ r:Int,v=iV r:=by
 refine Pb T159 rfl ?_;cases b
 .simp only[go_sem];exact⟨_,rfl,⟨rfl,rfl,rfl⟩,_,rfl⟩
 .simp only[go_sem];exact⟨_,rfl,⟨rfl,rfl,rfl⟩,_,rfl⟩
def Ha(a b:Int):∃ v,Fn TT PT 156 [iV a,iV b] v/\∃ r:Int,v=iV r:=by
 refine Pb T156 rfl ?_;cases h:(a==0)
 .simp only[go_sem,bne,h,A2];exact⟨_,rfl,⟨rfl,rfl,rfl⟩,_,rfl⟩
 .simp only[go_sem,bne,h,A0];exact⟨_,rfl,⟨rfl,rfl,rfl⟩,_,rfl⟩
def Aky:∀ (N:Nat) (z:Bool) (t:Nat) (l:List Sp),Cz (l.map Sp.row)<=N->N<=1000000000->∃ v,Fn TT PT 73 [SL z t (l.map Sp.row)] v/\∃ n:Int,v=iV n
 | N,z,t,l,h,hN=>by
  have h2:=Mb (f:=Sp.row) (fun x=>by grind[N0]) l;have qd:(l.map Sp.row).length=l.length:=Au ..;refine Pb T73 rfl ?_;simp only[go_sem,qd];refine Bk (α:=Nat × Int) (fun a=>l.length - a.1) (fun a=>[(0,SL z t (l.map Sp.row)),(3,iV a.2),(4,iV (a.1:Int))]) (fun _=>[]) (fun a=>a.1<=l.length) ?_ (0,_) (Ax _);rintro⟨i,n⟩ hi ih;simp only at hi ih;refine Bd Bpj ?_;rcases Bh i l.length with h' | h'
  .obtain⟨y,hy,-,hm⟩:=Bq h';have hb:=J1 (f:=Sp.row) hm;have qU:=N0 y
   cases N with
   | zero=>omega
   | succ N=>
    obtain⟨_,hf,n1,rfl⟩:=Aky N y.bz y.bt y.body AA AA;obtain⟨_,hg,n2,rfl⟩:=Aky N y.ez y.et y.els AA AA;have qc:=Fk y;simp only[go_sem,qd,Ay h'];refine Af AD ?_;simp only[go_sem,As,hy,qc];refine Bg hf AB ?_;simp only[go_sem,As,hy,qc];refine Bg hg AB ?_;simp only[go_sem,A1 (show i<9223372036854775807 by omega)];exact Aq (ih (i+1,_) AA h') rfl
  .simp only[go_sem,qd,Bl h'];exact⟨_,rfl,⟨rfl,rfl,rfl⟩,_,rfl⟩
structure WK (σ:St) (w:Nat) (p:Gp) (th:Int) (uA uS uT:V) (A S T:List (List V)):Prop where
 row:σ[w]?=some (E9 p th uA uS uT)
 a:GS σ 11 103 uA A
 s:GS σ 1 9 uS S
 t:GS σ 1 9 uT T
 ad:∀ j∈uA.refs,j≠w/\j ∉ uS.refs/\j ∉ uT.refs
 sd:∀ j∈uS.refs,j≠w/\j ∉ uT.refs
 td:∀ j∈uT.refs,j≠w
 cl:Cl σ
theorem O0(z:Bool)(t:Nat)(l:List (List V)):(SL z t l).refs=[]:=by
 unfold SL
 split<;>rfl
theorem Alw(p:Gp)(th:Int)(uA uS uT:V):Ag (wkR p th uA uS uT)=uA.refs++(uS.refs++uT.refs):=by
 simp[Ag,O0,V.refs]
def Ue{σ:St}{w:Nat}{p:Gp}{th:Int}{uA uS uT:V}{A S T:List (List V)}(h:WK σ w p th uA uS uT A S T):w<σ.length:=(Al.1 h.row).1
def Uf{σ:St}{w:Nat}{p:Gp}{th:Int}{uA uS uT:V}{A S T:List (List V)}(h:WK σ w p th uA uS uT A S T):fp σ w=w::(uA.refs++(uS.refs++uT.refs)):=by
 rw[Aml h.row,Alw]
theorem Aw6{σ:St}{w:Nat}{p:Gp}{th:Int}{uA uS uT:V}{A S T:List (List V)}(h:WK σ w p th uA uS uT A S T)(l:St)(hc:Cl (σ++l)):WK (σ++l) w p th uA uS uT A S T:=by
 have k:∀ i,i<σ.length->(σ++l)[i]?=σ[i]?:=fun i hi=>Eb hi
 exact⟨by rw[k w (Ue h)];exact h.row,Ii h.a fun i hi=>k i (C1 h.a i hi),Ii h.s fun i hi=>k i (C1 h.s i hi),Ii h.t fun i hi=>k i (C1 h.t i hi),h.ad,h.sd,h.td,hc⟩
def Abs{σ σ2:St}{w:Nat}{p:Gp}{th th':Int}{uA uS uT vA vS vT:V}{A S T A' S' T':List (List V)}(h:WK σ w p th uA uS uT A S T)(hl:σ.length<=σ2.length)(hB:∀ j,j<σ.length->j ∉ uA.refs->j ∉ uS.refs->j ∉ uT.refs->σ2[j]?=σ[j]?)
  (ga:GS σ2 11 103 vA A') (gs:GS σ2 1 9 vS S') (gt:GS σ2 1 9 vT T') (rA:∀ j∈vA.refs,j∈uA.refs\/σ.length<=j) (rS:∀ j∈vS.refs,j∈uS.refs\/σ.length<=j) (rT:∀ j∈vT.refs,j∈uT.refs\/σ.length<=j)
  (d1:∀ j∈vA.refs,j ∉ vS.refs/\j ∉ vT.refs) (d2:∀ j∈vS.refs,j ∉ vT.refs) (hc:Cl σ2) :
  WK (σ2.set w (E9 p th' vA vS vT)) w p th' vA vS vT A' S' T'/\FW w σ (σ2.set w (E9 p th' vA vS vT)):=by
 have hw:=Ue h
 have nA:∀ j∈vA.refs,j≠w:=fun j hj e=>by
  rcases rA j hj with h2 | h2
  .exact(h.ad j h2).1 e
  .omega
 have nS:∀ j∈vS.refs,j≠w:=fun j hj e=>by
  rcases rS j hj with h2 | h2
  .exact(h.sd j h2).1 e
  .omega
 have nT:∀ j∈vT.refs,j≠w:=fun j hj e=>by
  rcases rT j hj with h2 | h2
  .exact h.td j h2 e
  .omega
 have ks:∀ (X:Ob) (j:Nat),j≠w->(σ2.set w X)[j]?=σ2[j]?:=fun X j hj=>Cc (Ne.symm hj)
 refine⟨⟨Cm AA,Ii ga fun i hi=>ks _ i (nA i hi),Ii gs fun i hi=>ks _ i (nS i hi),Ii gt fun i hi=>ks _ i (nT i hi),fun j hj=>⟨nA j hj,d1 j hj⟩,fun j hj=>⟨nS j hj,d2 j hj⟩,nT,F8 hc ?_⟩,?_⟩
 .grind[Ob.refs,Alw,C1]
 .have hf:=Uf h;refine Amm (τ:=σ2) ⟨hl,fun j hj hn=>?_,fun j hj=>?_⟩ hw fun j hj=>?_
  .grind
  .rw[hf];have e2:σ2[w]?=σ[w]?:=hB w hw (fun e=>(h.ad w e).1 rfl) (fun e=>(h.sd w e).1 rfl) (fun e=>h.td w e rfl)
   grind[fp]
  grind[Alw]
def A0p{σ σ2:St}{w:Nat}{p:Gp}{th:Int}{uA uS uT:V}{A S T:List (List V)}(h:WK σ w p th uA uS uT A S T)(hB:∀ j,j<σ.length->j ∉ uA.refs->j ∉ uS.refs->j ∉ uT.refs->σ2[j]?=σ[j]?):σ2[w]?=some (E9 p th uA uS uT):=by
 rw[hB w (Ue h) (fun e=>(h.ad w e).1 rfl) (fun e=>(h.sd w e).1 rfl) (fun e=>h.td w e rfl)];exact h.row
def Br2{σ:St}{w:Nat}{p:Gp}{th:Int}{uA uS uT:V}{A S T:List (List V)}(h:WK σ w p th uA uS uT A S T)(nm:List UInt8)(hb:S.length<=1000000000):∃ u' σ2,Dv 16 (1,9) uS (.lst 1 [[.str nm]]) σ=some (u',σ2)/\u'.cellB=true/\σ2[w]?=some (E9 p th uA uS uT) /\
  WK (σ2.set w (E9 p th uA u' uT)) w p th uA u' uT A (S++[[.str nm]]) T/\FW w σ (σ2.set w (E9 p th uA u' uT)):=by
 obtain⟨u',σ2,e1,g,hl,hk,hr,hc⟩:=Xv (bytes:=16) (row:=[.str nm]) h.s AA rfl rfl AA;have hB:∀ j,j<σ.length->j ∉ uA.refs->j ∉ uS.refs->j ∉ uT.refs->σ2[j]?=σ[j]?:=fun j hj _ h2 _=>hk j hj h2
 have nn:∀ j,j<σ.length->j ∉ uS.refs->j ∉ u'.refs:=fun j hj h1 h2=>by
  grind
 exact⟨u',σ2,e1,J5 g,A0p h hB,Abs h hl hB (Ii h.a fun i hi=>hk i (C1 h.a i hi) (h.ad i hi).2.1) g (Ii h.t fun i hi=>hk i (C1 h.t i hi) fun e=>(h.sd i e).2 hi) (fun j hj=>.inl hj) hr (fun j hj=>.inl hj)
  (fun j hj=>⟨nn j (C1 h.a j hj) (h.ad j hj).2.1,(h.ad j hj).2.2⟩) (fun j hj ht=>nn j (C1 h.t j ht) (fun e=>(h.sd j e).2 ht) hj) (hc h.cl)⟩
def Y4{σ:St}{w:Nat}{p:Gp}{th:Int}{uA uS uT:V}{A S T:List (List V)}(h:WK σ w p th uA uS uT A S T)(nm:List UInt8)(hb:T.length<=1000000000):∃ u' σ2,Dv 16 (1,9) uT (.lst 1 [[.str nm]]) σ=some (u',σ2)/\u'.cellB=true/\σ2[w]?=some (E9 p th uA uS uT) /\
  WK (σ2.set w (E9 p th uA uS u')) w p th uA uS u' A S (T++[[.str nm]])/\FW w σ (σ2.set w (E9 p th uA uS u')):=by
 obtain⟨u',σ2,e1,g,hl,hk,hr,hc⟩:=Xv (bytes:=16) (row:=[.str nm]) h.t AA rfl rfl AA;have hB:∀ j,j<σ.length->j ∉ uA.refs->j ∉ uS.refs->j ∉ uT.refs->σ2[j]?=σ[j]?:=fun j hj _ _ h2=>hk j hj h2
 have nn:∀ j,j<σ.length->j ∉ uT.refs->j ∉ u'.refs:=fun j hj h1 h2=>by
  grind
 exact⟨u',σ2,e1,J5 g,A0p h hB,Abs h hl hB (Ii h.a fun i hi=>hk i (C1 h.a i hi) (h.ad i hi).2.2) (Ii h.s fun i hi=>hk i (C1 h.s i hi) (h.sd i hi).2) g (fun j hj=>.inl hj) (fun j hj=>.inl hj) hr
  (fun j hj=>⟨(h.ad j hj).2.1,nn j (C1 h.a j hj) (h.ad j hj).2.2⟩) (fun j hj=>nn j (C1 h.s j hj) (h.sd j hj).2) (hc h.cl)⟩
def Ay6{R:V->Prop}{f p:Nat}{res:List AR}{body:AC}{vs:List V}{σ:St}(hT:TT f=some ⟨p,res,true,body,none⟩)(hl:vs.length=p)(h:W TT PT [.c body] (C6 0 vs) σ (Hd fun e' σ1=>∃ v,Cd e' σ1 res=some v/\(Cg v=true/\v.refs=[])/\(∃ l,σ1=σ++l)/\R v)):∃ v,Th TT PT f vs σ v σ/\R v:=by
 obtain⟨e',_,hE,v,hr,⟨h1,h2⟩,⟨l,rfl⟩,h3⟩:=h;exact⟨v,As4 hT rfl rfl hl ⟨e',_,hE,hr,⟨h1,by rw[h2];rfl,fun i ob hi ho=>.inl (by grind)⟩,by grind⟩,h3⟩
def Alx{R:V->St->Prop}{f p:Nat}{res:List AR}{body:AC}{vs:List V}{σ:St}(hT:TT f=some ⟨p,res,true,body,none⟩)(hl:vs.length=p)(h:W TT PT [.c body] (C6 0 vs) σ (Hd fun e' σ1=>∃ v,Cd e' σ1 res=some v/\(Cg v=true/\v.refs=[])/\(σ.length<=σ1.length/\Cl σ1)/\R v σ1)):∃ v σ',Th TT PT f vs σ v σ'/\R v σ':=by
 obtain⟨e',σ1,hE,v,hr,⟨h1,h2⟩,⟨h3,h4⟩,h5⟩:=h;exact⟨v,σ1,Af9 hT hl ⟨e',σ1,hE,hr,rfl⟩ h2 h1 h3 h4,h5⟩
def A0q{m j g off len i:Nat}{w:Bool}{k:IntKind}(h:i<len):Lu m (.sl j g off len m w) (.int k (i:Int))=some (.ptr j g (off+i*m)):=by
 simp_all [Lu]
set_option maxHeartbeats 1000000 in
def Q9{σ:St}{w:Nat}{p:Gp}{th:Int}{uA uS uT:V}{X:List Sp}{S T:List (List V)}(h:WK σ w p th uA uS uT (X.map Sp.row) S T)(hX:X.length<=1000000000)(a b:Int)(nm:List UInt8):∃ v,Th TT PT 155 [.ptr w 0 0,iV a,iV b,.str nm] σ v σ/\∃ z,v=.bool z:=by
 have qd:=Abo h.a;have n1:(X.map Sp.row).length=X.length:=Au ..;rw[n1]at qd;refine Ay6 T155 rfl ?_;simp only[go_sem];refine Bk (α:=Nat × St) (fun a=>X.length - a.1) (fun x=>[(0,.ptr w 0 0),(1,iV a),(2,iV b),(3,.str nm),(9,iV (x.1:Int))]) (fun x=>x.2) (fun x=>x.1<=X.length/\∃ l,x.2=σ++l) ?_ (0,σ) ⟨Ax _,[],by simp⟩;rintro⟨i,_⟩ ⟨hi,l,rfl⟩ ih;simp only at hi ih;have hr:=Bs (l:=l) h.row;refine Bd Bjw ?_;rcases Bh i X.length with h' | h'
 .obtain⟨x,hx,-,-⟩:=Bq h';obtain⟨j,g,cs,rfl,ho,hb,qc⟩:=Bj7 (i:=i) (row:=x.row) h.a (by grind);rw[n1]at hr qd;have hj:=Bs (l:=l) ho
  have qJ:L5 (σ++l)[j]? g 11 false (i*11)=some (.agg x.row):=by
   rw[hj];simp only[L5];rw[if_pos ⟨trivial,by omega⟩,qc];rfl
  have qR:=Hc x;have ql:=Fk x;rw[ql]at qJ qR
  cases qa:(x.op==a)<;>cases qb:(x.op==b)<;>cases qn:(nm==[])<;>cases qx:(x.nm==nm)
  all_goals
   simp only[go_sem,hr,qd,Ay h',A0q h',qJ,qa,qb,qn,qx,A1 (show i<9223372036854775807 by omega)]
   first
    | exact⟨_,rfl,⟨rfl,rfl⟩,⟨_,rfl⟩,_,rfl⟩
    | exact Aq (ih (i+1,_) AA ⟨h',_,rfl⟩) rfl
 .simp only[go_sem,hr,qd,Bl h'];exact⟨_,rfl,⟨rfl,rfl⟩,⟨_,rfl⟩,_,rfl⟩
