/- Plain: what is parsed is shaped and not much longer than its tokens. -/
import Derived.Test.YthlbbjcbmojocacGreatDoorGd
set_option linter.all false
namespace Go.Proofs.YthlbbjcbmojocacGreatDoor.KM
open Go
def Adq{p:UInt8->Bool}:∀ {l:List UInt8} {x:UInt8},x∈l.takeWhile p->p x=true
 | [],x,h=>by cases h
 | c::l,x,h=>by
  rw[Aa3]at h
  split at h
  .rename_i hc;rcases Bj.1 h with rfl | h
   .exact hc
   .exact Adq h
  .cases h
def D2(ts:List Tk):Prop:=∀ t∈ts,(t.kind=1->Cc t.text=true)/\(t.kind=2->0<=Jh t.text/\Jh t.text<=9223372036854775807)
def Dg{a b:List Tk}(h:D2 b)(hs:a <:+ b):D2 a:=fun t ht=>h t (hs.subset ht)
def wt(C:Nat)(ts:List Tk):Nat:=C*ts.length
def Ts(C:Nat)(t:Tk)(ts:List Tk):wt C (t::ts)=C+wt C ts:=by unfold wt;rw[Am,Nat.mul_add];omega
def Mj{s:List UInt8}{ts:List Tk}{C:Nat}(h:Ax s ts=true):ts.tail <:+ ts/\ts.tail.length+1=ts.length/\wt C ts=C+wt C ts.tail:=by
 cases ts with
 | nil=>cases h
 | cons t r=>exact⟨Ss t r,rfl,Ts C t r⟩
def A7x{qg:Nat}{ts:List Tk}{C:Nat}(h:Hu qg ts≠0):ts.tail <:+ ts/\ts.tail.length+1=ts.length/\wt C ts=C+wt C ts.tail:=by
 cases ts with
 | nil=>exact absurd rfl h
 | cons t r=>exact⟨Ss t r,rfl,Ts C t r⟩
def Uk{l:List UInt8}(h:Cc l=true):l.length<=12:=by
 obtain⟨c,cs,rfl,-,-,h,-⟩:=A3b h;exact h
def A0h{op:Int}(h:6<=op/\op<=18)(x y:Xp):(L7 op x y).txt.length<=x.txt.length+y.txt.length+8:=by
 unfold L7;rw[A7u h];have h1:=(Nh (x.op,x.txt) (Ho op)).2;have h2:=(Nh (y.op,y.txt) (Bw op+1)).2;have h3:=(Ar8 (op:=op) ⟨by omega,by omega⟩).1;simp only at h1 h2;simp only[Al,Am];omega
def A3d{op:Int}(h:op=4\/op=5)(x:Xp):(O5 op x).txt.length<=x.txt.length+4:=by
 unfold O5;rw[(Bck h).1];have h1:=(Nh (x.op,x.txt) 6).2;have h3:=(Ar8 (op:=op) ⟨by omega,by omega⟩).1;simp only at h1;simp only[Al];omega
def XQ(C:Nat)(ts:List Tk)(x:Xp)(r:List Tk):Prop:=ShE x/\r <:+ ts/\r.length<ts.length/\x.txt.length+wt C r<=wt C ts
def Vs{C:Nat}(hC:25<=C):∀ n,(∀ qg ts x r,D2 ts->pe n qg ts=some (x,r)->XQ C ts x r) /\
  (∀ qg x0 ts x r,D2 ts->ShE x0->lp n qg x0 ts=some (x,r)->ShE x/\r <:+ ts/\r.length<=ts.length/\x.txt.length+wt C r<=x0.txt.length+wt C ts) /\
  (∀ ts x r,D2 ts->pu n ts=some (x,r)->XQ C ts x r)/\(∀ ts x r,D2 ts->pp n ts=some (x,r)->XQ C ts x r)
 | 0=>⟨fun _ _ _ _ _ h=>by simp[pe]at h,fun _ _ _ _ _ _ _ h=>by simp[lp]at h,fun _ _ _ _ h=>by simp[pu]at h,fun _ _ _ _ h=>by simp[pp]at h⟩
 | n+1=>by
  obtain⟨ql,qi,qp,qG⟩:=Vs hC n;refine⟨fun qg ts x r ht h=>?_,fun qg x0 ts x r ht h0 h=>?_,fun ts x r ht h=>?_,fun ts x r ht h=>?_⟩
  .rw[pe]at h
   split at h
   .exact qp ts x r ht h
   .split at h
    .cases h
    .rename_i y q hy;obtain⟨a1,a2,a3,a4⟩:=ql _ _ _ _ ht hy;obtain⟨b1,b2,b3,b4⟩:=qi _ _ _ _ _ (Dg ht a2) a1 h;exact⟨b1,b2.trans a2,by omega,by omega⟩
  .rw[lp]at h
   split at h
   .cases h;exact⟨h0,Af0 _,Ai _,Ai _⟩
   .rename_i ho;obtain⟨t1,t2,t3⟩:=A7x (C:=C) ho;obtain⟨o1,-,-⟩:=A3c ho
    split at h
    .cases h
    .rename_i y q hy;obtain⟨a1,a2,a3,a4⟩:=ql _ _ _ _ (Dg ht t1) hy;have hs:ShE (L7 (Hu qg ts) x0 y):=.bin o1 h0 a1;have hb:=A0h o1 x0 y
     split at h
     .cases h;exact⟨hs,a2.trans t1,by omega,by omega⟩
     .obtain⟨b1,b2,b3,b4⟩:=qi _ _ _ _ _ (Dg (Dg ht t1) a2) hs h;exact⟨b1,(b2.trans a2).trans t1,by omega,by omega⟩
  .have un:∀ (op:Int),op=4\/op=5->∀ s,Ax s ts=true->(match pu n ts.tail with
     | none=>none
     | some (x,r)=>some (O5 op x,r))=some (x,r)->XQ C ts x r:=fun op ho s hs h=>by
    obtain⟨t1,t2,t3⟩:=Mj (C:=C) hs
    split at h
    .cases h
    .rename_i y q hy;cases h;obtain⟨a1,a2,a3,a4⟩:=qp _ _ _ (Dg ht t1) hy;have:=A3d ho y;exact⟨.un ho a1,a2.trans t1,by omega,by omega⟩
   rw[pu]at h
   split at h
   .rename_i hs;exact un 4 (.inl rfl) _ hs h
   .split at h
    .rename_i hs;exact un 5 (.inr rfl) _ hs h
    .exact qG ts x r ht h
  .cases ts with
   | nil=>simp[pp]at h
   | cons t ts=>
    have hw:=Ts C t ts;have qa:=Ss t ts;have qc:=Dg ht qa;obtain⟨k1,k2⟩:=ht t C5;rw[pp]at h
    split at h
    .rename_i hk;cases h;refine⟨.num (k2 hk),qa,by simp,?_⟩;have:=V3 (Jh t.text);rw[Fq];simp only[Ed,if_true];omega
    .split at h
     .rename_i hk;have hn:=k1 hk;have qH:=Uk hn
      split at h
      .rename_i hs;obtain⟨t1,t2,t3⟩:=Mj (C:=C) hs
       split at h
       .cases h
       .rename_i y q hy;obtain⟨a1,a2,a3,a4⟩:=ql _ _ _ _ (Dg qc t1) hy
        split at h
        .rename_i qo;obtain⟨u1,u2,u3⟩:=Mj (C:=C) qo;cases h;refine⟨.idx hn a1,((u1.trans a2).trans t1).trans qa,by simp only[Am];omega,?_⟩;rw[Fq];simp[Ed];omega
        .cases h
      .cases h;refine⟨.name hn,qa,by simp,?_⟩;rw[Fq];simp only[Ed,show((2:Int)=1)=False from eq_false (by omega),if_false,if_true];omega
     .split at h
      .split at h
       .cases h
       .rename_i y q hy;obtain⟨a1,a2,a3,a4⟩:=ql _ _ _ _ qc hy
        split at h
        .rename_i qo;obtain⟨u1,u2,u3⟩:=Mj (C:=C) qo;cases h;exact⟨a1,(u1.trans a2).trans qa,by simp only[Am];omega,by omega⟩
        .cases h
      .cases h
/-! scanning gives right tokens -/
def V4:∀ (n:Nat) (ln:Int) (l:List UInt8) (ts:List Tk),Ej n ln l=some ts->D2 ts
 | n,ln,[],ts,h=>by
  have:Ej n ln []=some []:=by cases n<;>rfl
  rw[this]at h;cases h;intro t ht;cases ht
 | 0,ln,c::r,ts,h=>by cases h
 | n+1,ln,c::r,ts,h=>by
  rw[Ej]at h
  split at h
  .exact V4 n _ _ _ h
  .split at h
   .exact V4 n _ _ _ h
   .split at h
    .exact V4 n _ _ _ h
    .split at h
     .cases h
     .rename_i k w hf;simp only[Bu]at h;obtain⟨l,hl,rfl⟩:=h;intro t ht;rcases Bj.1 ht with rfl | ht
      .rw[Vk]at hf;simp only
       split at hf
       .rename_i hc
        split at hf
        .cases hf
        .rename_i qj;cases hf;refine⟨fun hk=>?_,fun hk=>?_⟩
         .split at hk
          .cases hk
          .rename_i qB;refine Ats (by simp[E6]) (by omega) (by simpa using qB) fun j hj=>?_
           have qm:∀ d∈E6 c r,Nz d=true:=fun d hd=>by
            rcases Bj.1 hd with rfl | hd
            .exact(A7t hc).2.2.2
            .exact Adq hd
           cases j with
           | zero=>
            have h1:Lz c.toNat=true:=hc;simp[N3,E6,h1]
           | succ j=>
            have hm:((E6 c r).getD (j+1) 0)∈E6 c r:=by rw[Av,Bc hj];exact Fy _
            have hi:=qm _ hm;unfold Nz Mz at hi;unfold N3;simp only[Il,Af,decide_eq_true_eq]at hi ⊢;rcases hi with h | h | h
            .exact .inl h
            .exact .inr ⟨by omega,.inr h⟩
            .exact .inr ⟨by omega,.inl h⟩
         .split at hk<;>cases hk
       .split at hf
        .rename_i hc
         split at hf
         .cases hf
         .split at hf
          .rename_i qn;cases hf;refine⟨(fun hk=>by cases hk),fun _=>?_⟩
           have hd:J7 (Et c r):=fun d hd=>by
            rcases Bj.1 hd with rfl | hd
            .exact hc
            .exact Adq hd
           rw[Aoc hd]at qn;have hv:=of_decide_eq_true qn;have:=Ap6 hd hv;unfold Et at hv ⊢;rw[this];omega
          .cases hf
        .split at hf
         .cases hf
         .cases hf;exact⟨(fun hk=>by cases hk),(fun hk=>by cases hk)⟩
      .exact V4 n _ _ _ hl t ht
/-! statements -/
def One(C:Nat)(ts r:List Tk):Prop:=r <:+ ts/\r.length+1=ts.length/\wt C ts=C+wt C r
def Ap7(C:Nat)(t:Tk)(r:List Tk):One C (t::r) r:=⟨Ss t r,rfl,Ts C t r⟩
def Tc{C:Nat}{ts r:List Tk}{nm:List UInt8}(ht:D2 ts)(h:Df ts=some (nm,r)):Cc nm=true/\One C ts r:=by
 cases ts with
 | nil=>cases h
 | cons t ts=>
  unfold Df at h;simp only at h
  split at h
  .rename_i hk;cases h;exact⟨(ht t C5).1 hk,Ap7 C t _⟩
  .cases h
def Lp{C:Nat}{s:List UInt8}{ts r:List Tk}(h:D4 s ts=some r):One C ts r:=by
 unfold D4 at h
 split at h
 .rename_i hs;cases h;obtain⟨h1,h2,h3⟩:=Mj (C:=C) hs;exact⟨h1,h2,h3⟩
 .cases h
def Ace{C:Nat}{ts r:List Tk}{n:Int}(ht:D2 ts)(h:Hf ts=some (n,r)):(0<=n/\n<=9223372036854775807)/\One C ts r:=by
 cases ts with
 | nil=>cases h
 | cons t ts=>
  unfold Hf at h;simp only at h
  split at h
  .rename_i hk;cases h;exact⟨(ht t C5).2 hk,Ap7 C t _⟩
  .cases h
def Agp:∀ {l:List (List UInt8 × Int)} {s:List UInt8} {v:Int},l.lookup s=some v->∃ a,(a,v)∈l
 | [],_,_,h=>by cases h
 | (a,w)::l,s,v,h=>by
  rw[Aa8]at h
  split at h
  .cases h;exact⟨a,C5⟩
  .obtain⟨b,hb⟩:=Agp h;exact⟨b,C4 _ hb⟩
def Ap8(s:List UInt8):Ek s=0\/(2<=Ek s/\Ek s<=15):=by
 unfold Ek
 cases h:wordTab.lookup s with
 | none=>exact .inl rfl
 | some v=>
  obtain⟨a,ha⟩:=Agp h;have:(wordTab.all fun p=>decide (2<=p.2/\p.2<=15))=true:=by decide
  exact .inr (of_decide_eq_true (Bp.1 this (a,v) ha))
def Ap9(s:List UInt8):Hc s=0\/(1<=Hc s/\Hc s<=6):=by
 unfold Hc
 cases h:declTab.lookup s with
 | none=>exact .inl rfl
 | some v=>
  obtain⟨a,ha⟩:=Agp h;have:(declTab.all fun p=>decide (1<=p.2/\p.2<=6))=true:=by decide
  exact .inr (of_decide_eq_true (Bp.1 this (a,v) ha))
def Ms(s:Sp):Nat:=if Ei s.op then s.ex.txt.length else 0
def A7y(op:Int):(C8 op).length<=11:=by
 unfold C8
 split<;>simp
def A7z(s:Sp):(Cv s).length<=20+s.nm.length+s.arg.length+(F4 s.idx).length+Ms s:=by
 have hw:=A7y s.op;unfold Cv Ms Ei;by_cases h1:s.op=1
 .simp[h1];omega
 by_cases h2:s.op=2
 .rw[h2]at hw;simp[h2];omega
 by_cases h3:s.op=3
 .rw[h3]at hw;simp[h3];omega
 by_cases qs:s.op=14
 .rw[qs]at hw;simp[qs];omega
 rw[if_neg h1,if_neg (by omega)]
 split
 .omega
 .try rw[if_neg qs]
  split
  .simp;omega
  .simp;omega
def Bcm(d:Nat)(s:Sp):(s.txt d).length<=6*d+40+s.nm.length+s.arg.length+(F4 s.idx).length+Ms s+(if B4 s.op then(Sp.txts (d+1) s.body).length+(Sp.txts (d+1) s.els).length else 0):=by
 have hh:=A7z s;rw[Lr]
 have h5:(if s.els.isEmpty=true then [] else El d++125::32::101::108::115::101::32::123::10::Sp.txts (d+1) s.els).length<=2*d+9+(Sp.txts (d+1) s.els).length:=by
  split
  .simp
  .simp[Jv];omega
 cases B4 s.op
 .simp only[Al,Jv,F6,if_false,Am,C9];omega
 .simp only[Al,Jv,if_true,Am,C9];omega
def SQ(M C:Nat)(ts:List Tk)(s:Sp)(r:List Tk):Prop:=ShS s/\r <:+ ts/\r.length<ts.length/\s.sz+r.length<=ts.length/\∀ d,d+ts.length<=M->(s.txt d).length+wt C r<=wt C ts
def LQ(M C:Nat)(ts:List Tk)(l:List Sp)(r:List Tk):Prop:=(∀ s∈l,ShS s)/\r <:+ ts/\r.length<ts.length/\Sp.szs l+r.length<ts.length/\∀ d,d+ts.length<=M->(Sp.txts d l).length+wt C r<=wt C ts
def Rp{M C:Nat}(hC:100+8*M<=C){ts r:List Tk}{s:Sp}(hs:ShS s)(h1:r <:+ ts)(h2:r.length<ts.length)(h3:Sp.szs s.body+Sp.szs s.els+1+r.length<=ts.length)
  (h4:∀ d,d+ts.length<=M->C+(F4 s.idx).length+Ms s+((Sp.txts (d+1) s.body).length+(Sp.txts (d+1) s.els).length)+wt C r<=wt C ts):SQ M C ts s r:=by
 refine⟨hs,h1,h2,by rw[Mm];omega,fun d hd=>?_⟩;have h5:=h4 d hd;have h6:=Bcm d s
 have h7:s.nm.length<=12/\s.arg.length<=12:=by
  cases hs with
  | mk a1 a2 a3 a4 a5 _ _ _ _ _ _ _ _ _=>
   constructor
   .cases hn:Gg s.op
    .exact Uk (a3 hn)
    .rw[a2 hn];exact Au _
   .by_cases ha:s.op=15
    .exact Uk (a4 ha)
    .rw[a5 ha];exact Au _
 have h8:(if B4 s.op then(Sp.txts (d+1) s.body).length+(Sp.txts (d+1) s.els).length else 0)<=(Sp.txts (d+1) s.body).length+(Sp.txts (d+1) s.els).length:=by
  split
  .exact Ai _
  .exact Au _
 omega
def Ayr{M C:Nat}(hC:100+8*M<=C){n:Nat}{line:Int}{ts:List Tk}{s:Sp}{r:List Tk}(ht:D2 ts)(h:Up n line ts=some (s,r)):SQ M C ts s r:=by
 unfold Up at h
 split at h
 .cases h
 rename_i nm t1 hn;obtain⟨n1,n2,n3,n4⟩:=Tc (C:=C) ht hn;have qb:=Dg ht n2
 split at h
 .cases h
 rename_i ix t2 hi
 have qA:ix.length<=1/\(∀ x∈ix,ShE x)/\t2 <:+ t1/\t2.length<=t1.length/\(F4 ix).length+wt C t2<=wt C t1:=by
  unfold Alg at hi
  split at hi
  .rename_i hs;obtain⟨u1,u2,u3⟩:=Mj (C:=C) hs
   split at hi
   .cases hi
   .rename_i x q hx;obtain⟨a1,a2,a3,a4⟩:=(Vs (C:=C) (by omega) n).1 _ _ _ _ (Dg qb u1) hx;simp only[Bu]at hi;obtain⟨q',hq,hi⟩:=hi;cases hi;obtain⟨b1,b2,b3⟩:=Lp (C:=C) hq;have:=Apz [x];simp only at this;exact⟨by simp,by simpa using a1,(b1.trans a2).trans u1,by omega,by omega⟩
  .cases hi;exact⟨by simp,by simp,Af0 _,Ai _,by simp[F4]⟩
 obtain⟨i1,i2,i3,i4,i5⟩:=qA;have qk:=Dg qb i3
 split at h
 .cases h
 rename_i t3 h3;obtain⟨c1,c2,c3⟩:=Lp (C:=C) h3;have qD:=Dg qk c1
 split at h
 .cases h
 rename_i x t4 hx;obtain⟨a1,a2,a3,a4⟩:=(Vs (C:=C) (by omega) n).1 _ _ _ _ qD hx;simp only[Bu]at h;obtain⟨t5,h5,h⟩:=h;cases h;obtain⟨d1,d2,d3⟩:=Lp (C:=C) h5;refine Rp hC (.mk ⟨by simp[Ar],by simp[Ar]⟩ (by simp[Ar,Gg]) (fun _=>n1) (by simp[Ar]) (by simp[Ar]) i1 (by simp[Ar]) i2 (fun _=>a1) (by simp[Ar,Ei]) (by simp[Ar]) (by simp[Ar]) (by simp[Ar]) (by simp[Ar])) ((((d1.trans a2).trans c1).trans i3).trans n2) (by omega) (by simp[Ar,Sp.szs];omega) fun d hd=>?_
 simp only[Ar,Ms,Ei,Sp.txts,C9];simp;omega
def Acf{M C:Nat}(hC:100+8*M<=C):∀ n,(∀ ts s r,D2 ts->Ij n ts=some (s,r)->SQ M C ts s r)/\(∀ ts l r,D2 ts->Fm n ts=some (l,r)->LQ (M+1) C ts l r)/\(∀ ts l r,D2 ts->Ky n ts=some (l,r)->LQ M C ts l r)
 | 0=>⟨fun _ _ _ _ h=>by simp[Ij]at h,fun _ _ _ _ h=>by simp[Fm]at h,fun _ _ _ _ h=>by simp[Ky]at h⟩
 | n+1=>by
  obtain⟨ql,qi,qp⟩:=Acf hC n;refine⟨fun ts s r ht h=>?_,fun ts l r ht h=>?_,fun ts l r ht h=>?_⟩
  .cases ts with
   | nil=>simp[Ij]at h
   | cons t ts=>
    have hw:=Ts C t ts;have qa:=Ss t ts;have qc:=Dg ht qa;rw[Ij]at h
    split at h
    .exact Ayr hC ht h
    split at h
    rotate_left
    .cases h
    have hr:=Ap8 t.text;generalize Ek t.text=w at h hr
    split at h
    .cases h
    split at h
    .rename_i qe
     split at h
     .cases h
     rename_i x t1 hx;obtain⟨a1,a2,a3,a4⟩:=(Vs (C:=C) (by omega) n).1 _ _ _ _ qc hx;have qb:=Dg qc a2
     split at h
     .cases h
     rename_i b t2 hb;obtain⟨b1,b2,b3,b4,b5⟩:=qi _ _ _ qb hb;have qk:=Dg qb b2
     split at h
     .rename_i qF;obtain⟨rfl,hs⟩:=qF;obtain⟨u1,u2,u3⟩:=Mj (C:=C) hs
      split at h
      .cases h
      rename_i e t3 he;obtain⟨e1,e2,e3,e4,e5⟩:=qi _ _ _ (Dg qk u1) he;cases h;refine Rp hC (.mk ⟨by simp[Ar],by simp[Ar]⟩ (by simp[Ar]) (by simp[Ar,Gg]) (by simp[Ar]) (by simp[Ar]) (by simp[Ar]) (by simp[Ar]) (by simp[Ar]) (fun _=>a1) (by simp[Ar,Ei]) (by simp[Ar,B4]) (by simp[Ar]) b1 e1) ((((e2.trans u1).trans b2).trans a2).trans qa) (by simp only[Am];omega) (by simp only[Am];omega) fun d hd=>?_
      rw[Am]at hd;have:=b5 (d+1) (by omega);have:=e5 (d+1) (by omega);simp only[Ar,Ms,Ei,F4,C9];simp;omega
     .cases h;refine Rp hC (.mk (by simp only[Ar];omega) (by simp[Ar]) (by rcases qe with rfl | rfl<;>simp[Ar,Gg]) (by simp[Ar];omega) (by simp[Ar]) (by simp[Ar]) (by simp[Ar]) (by simp[Ar]) (fun _=>a1) (by rcases qe with rfl | rfl<;>simp[Ar,Ei]) (by rcases qe with rfl | rfl<;>simp[Ar,B4]) (by simp[Ar]) b1 (by simp[Ar])) ((b2.trans a2).trans qa) (by simp only[Am];omega) (by simp only[Ar,Am,Sp.szs];omega) fun d hd=>?_
      rw[Am]at hd;have:=b5 (d+1) (by omega)
      have:Ei w=true:=by rcases qe with rfl | rfl<;>rfl
      simp only[Ar,Ms,this,F4,C9,if_true,Sp.txts];omega
    .split at h
     .rename_i qf
      split at h
      .cases h
      rename_i b t2 hb;obtain⟨b1,b2,b3,b4,b5⟩:=qi _ _ _ qc hb;cases h;refine Rp hC (.mk (by simp only[Ar];omega) (by simp[Ar]) (by rcases qf with rfl | rfl<;>simp[Ar,Gg]) (by simp[Ar];omega) (by simp[Ar]) (by simp[Ar]) (by simp[Ar]) (by simp[Ar]) (by rcases qf with rfl | rfl<;>simp[Ar,Ei]) (fun _=>⟨rfl,rfl,rfl,rfl⟩) (by rcases qf with rfl | rfl<;>simp[Ar,B4]) (by simp[Ar]) b1 (by simp[Ar])) (b2.trans qa) (by simp only[Am];omega) (by simp only[Ar,Am,Sp.szs];omega) fun d hd=>?_
      rw[Am]at hd;have:=b5 (d+1) (by omega)
      have:Ei w=false:=by rcases qf with rfl | rfl<;>rfl
      simp only[Ar,Ms,this,F4,C9,F6,if_false,Sp.txts];omega
     .split at h
      .cases h
      rename_i nm t1 hn;obtain⟨n1,n2,n3,n4⟩:=Tc (C:=C) qc hn;have qb:=Dg qc n2
      split at h
      .rename_i qd
       split at h
       .cases h
       rename_i b t2 hb;obtain⟨b1,b2,b3,b4,b5⟩:=qi _ _ _ qb hb;cases h;refine Rp hC (.mk (by simp only[Ar];omega) (by rcases qd with rfl | rfl | rfl<;>simp[Ar,Gg]) (fun _=>n1) (by simp[Ar];omega) (by simp[Ar]) (by simp[Ar]) (by simp[Ar]) (by simp[Ar]) (by rcases qd with rfl | rfl | rfl<;>simp[Ar,Ei]) (fun _=>⟨rfl,rfl,rfl,rfl⟩) (by rcases qd with rfl | rfl | rfl<;>simp[Ar,B4]) (by simp[Ar]) b1 (by simp[Ar])) ((b2.trans n2).trans qa) (by simp only[Am];omega) (by simp only[Ar,Am,Sp.szs];omega) fun d hd=>?_
       rw[Am]at hd;have:=b5 (d+1) (by omega)
       have:Ei w=false:=by rcases qd with rfl | rfl | rfl<;>rfl
       simp only[Ar,Ms,this,F4,C9,F6,if_false,Sp.txts];omega
      .split at h
       .rename_i qv;subst qv
        split at h
        .cases h
        rename_i x t2 hx;obtain⟨a1,a2,a3,a4⟩:=(Vs (C:=C) (by omega) n).1 _ _ _ _ qb hx;simp only[Bu]at h;obtain⟨t3,h3,h⟩:=h;cases h;obtain⟨d1,d2,d3⟩:=Lp (C:=C) h3;refine Rp hC (.mk ⟨by simp[Ar],by simp[Ar]⟩ (by simp[Ar,Gg]) (fun _=>n1) (by simp[Ar]) (by simp[Ar]) (by simp[Ar]) (by simp[Ar]) (by simp[Ar]) (fun _=>a1) (by simp[Ar,Ei]) (by simp[Ar]) (by simp[Ar]) (by simp[Ar]) (by simp[Ar])) (((d1.trans a2).trans n2).trans qa) (by simp only[Am];omega) (by simp only[Ar,Am,Sp.szs];omega) fun d hd=>?_
        simp only[Ar,Ms,Ei,F4,C9,Sp.txts];simp;omega
       .split at h
        .rename_i qw;subst qw
         split at h
         .cases h
         rename_i ar t2 ha;obtain⟨a1,a2,a3,a4⟩:=Tc (C:=C) qb ha;simp only[Bu]at h;obtain⟨t3,h3,h⟩:=h;cases h;obtain⟨d1,d2,d3⟩:=Lp (C:=C) h3;refine Rp hC (.mk ⟨by simp[Ar],by simp[Ar]⟩ (by simp[Ar,Gg]) (fun _=>n1) (fun _=>a1) (by simp[Ar]) (by simp[Ar]) (by simp[Ar]) (by simp[Ar]) (by simp[Ar,Ei]) (fun _=>⟨rfl,rfl,rfl,rfl⟩) (by simp[Ar]) (by simp[Ar]) (by simp[Ar]) (by simp[Ar])) (((d1.trans a2).trans n2).trans qa) (by simp only[Am];omega) (by simp only[Ar,Am,Sp.szs];omega) fun d hd=>?_
         simp only[Ar,Ms,Ei,F4,C9,Sp.txts];simp;omega
        .simp only[Bu]at h;obtain⟨t3,h3,h⟩:=h;cases h;obtain⟨d1,d2,d3⟩:=Lp (C:=C) h3;have qx:w=9\/w=10\/w=11\/w=12\/w=13:=by omega
         refine Rp hC (.mk (by simp only[Ar];omega) (by rcases qx with rfl | rfl | rfl | rfl | rfl<;>simp[Ar,Gg]) (fun _=>n1) (by simp[Ar];omega) (by simp[Ar]) (by simp[Ar]) (by simp[Ar]) (by simp[Ar]) (by rcases qx with rfl | rfl | rfl | rfl | rfl<;>simp[Ar,Ei]) (fun _=>⟨rfl,rfl,rfl,rfl⟩) (by simp[Ar]) (by simp[Ar]) (by simp[Ar]) (by simp[Ar])) ((d1.trans n2).trans qa) (by simp only[Am];omega) (by simp only[Ar,Am,Sp.szs];omega) fun d hd=>?_
         have:Ei w=false:=by rcases qx with rfl | rfl | rfl | rfl | rfl<;>rfl
         simp only[Ar,Ms,this,F4,C9,F6,if_false,Sp.txts];omega
  .rw[Fm]at h
   split at h
   .rename_i hs;obtain⟨u1,u2,u3⟩:=Mj (C:=C) hs;obtain⟨b1,b2,b3,b4,b5⟩:=qp _ _ _ (Dg ht u1) h;exact⟨b1,b2.trans u1,by omega,by omega,fun d hd=>by have:=b5 d (by omega);omega⟩
   .cases h
  .rw[Ky]at h
   split at h
   .rename_i hs;obtain⟨u1,u2,u3⟩:=Mj (C:=C) hs;cases h;exact⟨by simp,u1,by omega,by simp only[Sp.szs];omega,fun d hd=>by simp only[Sp.txts,C9];omega⟩
   .split at h
    .cases h
    rename_i s t1 hs;obtain⟨a1,a2,a3,a4,a5⟩:=ql _ _ _ ht hs
    split at h
    .cases h
    rename_i l' t2 hl;obtain⟨b1,b2,b3,b4,b5⟩:=qp _ _ _ (Dg ht a2) hl;cases h;refine⟨fun x hx=>?_,b2.trans a2,by omega,by rw[Sp.szs];omega,fun d hd=>?_⟩
    .rcases Bj.1 hx with rfl | hx
     .exact a1
     .exact b1 x hx
    .have:=a5 d hd;have:=b5 d (by omega);rw[Nc,Al];omega
def Ql(C:Nat)(ts r:List Tk):Prop:=r <:+ ts/\r.length<=ts.length/\wt C r<=wt C ts
def Ol{C:Nat}{ts r:List Tk}(h:One C ts r):Ql C ts r:=⟨h.1,by have:=h.2.1;omega,by have:=h.2.2;omega⟩
def Ln{C:Nat}{a b c:List Tk}(h:Ql C a b)(h':Ql C b c):Ql C a c:=⟨h'.1.trans h.1,Cw h'.2.1 h.2.1,Cw h'.2.2 h.2.2⟩
def Aqa{C:Nat}(a:List Tk):Ql C a a:=⟨Af0 _,Ai _,Ai _⟩
def Akc{s:List UInt8}{ts:List Tk}(C:Nat)(h:Ax s ts=true):Ql C ts ts.tail:=by
 obtain⟨h1,h2,h3⟩:=Mj (C:=C) h;exact⟨h1,by omega,by omega⟩
def A3e{C:Nat}{ts r:List Tk}{n:Int}(ht:D2 ts)(h:Wu ts=some (n,r)):(0<=n/\n<=9223372036854775807)/\Ql C ts r:=by
 unfold Wu at h
 split at h
 .rename_i hs;have u:=Akc C hs
  split at h
  .cases h
  rename_i m q hq;obtain⟨n1,n2⟩:=Ace (C:=C) (Dg ht u.1) hq
  split at h
  .cases h
  simp only[Bu]at h;obtain⟨t3,h3,h⟩:=h;cases h;exact⟨n1,Ln (Ln u (Ol n2)) (Ol (Lp h3))⟩
 .cases h;exact⟨by omega,Aqa _⟩
def Aqb{C:Nat}{ts r:List Tk}{n:Int}(ht:D2 ts)(h:Ro ts=some (n,r)):(-9223372036854775808<n/\n<=9223372036854775807)/\Ql C ts r:=by
 unfold Ro at h
 split at h
 .rename_i hs;have u:=Akc C hs
  split at h
  .rename_i qo;have u2:=Akc C qo;simp only[Bu]at h;obtain⟨p,hp,h⟩:=h;obtain⟨m,q⟩:=p;cases h;obtain⟨n1,n2⟩:=Ace (C:=C) (Dg (Dg ht u.1) u2.1) hp;exact⟨by simp only;omega,Ln (Ln u u2) (Ol n2)⟩
  .obtain⟨n1,n2⟩:=Ace (C:=C) (Dg ht u.1) h;exact⟨by omega,Ln u (Ol n2)⟩
 .cases h;exact⟨by omega,Aqa _⟩
def DQ(C:Nat)(ts:List Tk)(d:Dp)(r:List Tk):Prop:=ShD d/\r <:+ ts/\r.length<ts.length/\(Fu d).length+2+wt C r<=wt C ts
def Aej{C:Nat}(hC:100<=C){t:Tk}{ts r:List Tk}{d:Dp}(h:ShD d)(hl:Ql C ts r):DQ C (t::ts) d r:=by
 have h1:=Uk h.nm
 have h2:d.on.length<=12:=by
  by_cases hk:d.kind=5
  .exact Uk (h.on.1 hk)
  .rw[h.on.2 hk];exact Au _
 have h3:=Awt h1 h2;have h4:=Ts C t ts;exact⟨h,hl.1.trans (Ss t ts),by have:=hl.2.1;simp only[Am];omega,by have:=hl.2.2;omega⟩
def Amg{C:Nat}(hC:100<=C){ts r:List Tk}{d:Dp}(ht:D2 ts)(hd:Rg ts=true)(h:Uj ts=some (d,r)):DQ C ts d r:=by
 cases ts with
 | nil=>cases h
 | cons t ts=>
  have hk:1<=Hc t.text/\Hc t.text<=6:=by
   simp only[Rg,Af,bne_iff_ne]at hd;rcases Ap9 t.text with h | h
   .exact absurd h hd.2
   .exact h
  have qc:=Dg ht (Ss t ts);rw[Uj]at h;generalize Hc t.text=w at h hk
  split at h
  .cases h
  rename_i nm t1 hn;obtain⟨n1,n2⟩:=Tc (C:=C) qc hn;have n2:=Ol n2;have qb:=Dg qc n2.1
  split at h
  .split at h
   .cases h
   rename_i sz t2 hs;obtain⟨s1,s2⟩:=A3e (C:=C) qb hs
   split at h
   .cases h
   rename_i i t3 hi;obtain⟨i1,i2⟩:=Aqb (C:=C) (Dg qb s2.1) hi;simp only[Bu]at h;obtain⟨t4,h4,h⟩:=h;cases h;exact Aej hC ⟨by simp,n1,by simp;exact s1,⟨i1.1,i1.2,by simp⟩,by simp⟩ (Ln (Ln (Ln n2 s2) i2) (Ol (Lp h4)))
  split at h
  .split at h
   .cases h
   rename_i i t3 hi;obtain⟨i1,i2⟩:=Aqb (C:=C) qb hi;simp only[Bu]at h;obtain⟨t4,h4,h⟩:=h;cases h;exact Aej hC ⟨by simp,n1,by simp,⟨i1.1,i1.2,by simp⟩,by simp⟩ (Ln (Ln n2 i2) (Ol (Lp h4)))
  split at h
  .split at h
   .cases h
   rename_i on t3 hi;obtain⟨i1,i2⟩:=Tc (C:=C) qb hi;simp only[Bu]at h;obtain⟨t4,h4,h⟩:=h;cases h;exact Aej hC ⟨by simp,n1,by simp,by simp,by simpa using i1⟩ (Ln (Ln n2 (Ol i2)) (Ol (Lp h4)))
  .rename_i q1 q2 q5;simp only[Bu]at h;obtain⟨t4,h4,h⟩:=h;cases h;exact Aej hC ⟨hk,n1,⟨by simp,by simp,fun _=>rfl⟩,⟨by simp,by simp,fun _ _=>rfl⟩,fun h=>absurd h q5,fun _=>rfl⟩ (Ln n2 (Ol (Lp h4)))
def Al7{C:Nat}(hC:100<=C):∀ (n:Nat) (ts:List Tk) (l:List Dp) (r:List Tk),D2 ts->Lu n ts=some (l,r)->(∀ d∈l,ShD d)/\r <:+ ts/\((l.map fun d=>Fu d++[59,10]).flatten).length+wt C r<=wt C ts
 | 0,ts,l,r,ht,h=>by cases h
 | n+1,ts,l,r,ht,h=>by
  rw[Lu]at h
  split at h
  .rename_i hd
   split at h
   .cases h
   rename_i d q hq;obtain⟨d1,d2,d3,d4⟩:=Amg hC ht hd hq
   split at h
   .cases h
   rename_i l' q' qu;obtain⟨e1,e2,e3⟩:=Al7 hC n _ _ _ (Dg ht d2) qu;cases h;refine⟨fun x hx=>?_,e2.trans d2,?_⟩
   .rcases Bj.1 hx with rfl | hx
    .exact d1
    .exact e1 x hx
   .simp only[Bb,Dv,Al,Am,C9]at e3 ⊢;omega
  .cases h;exact⟨by simp,Af0 _,by simp⟩
def Amz{C:Nat}(hC:100<=C):∀ (n:Nat) (ts:List Tk) (l:List (List UInt8)) (r:List Tk),D2 ts->L8 n ts=some (l,r)->(∀ s∈l,Cc s=true)/\r <:+ ts/\r.length<ts.length/\(Fb l).length+wt C r<=wt C ts
 | 0,ts,l,r,ht,h=>by cases h
 | n+1,ts,l,r,ht,h=>by
  rw[L8]at h
  split at h
  .cases h
  rename_i nm t1 hn;obtain⟨n1,n2,n3,n4⟩:=Tc (C:=C) ht hn;have n5:=Uk n1
  split at h
  .rename_i hs;obtain⟨u1,u2,u3⟩:=Mj (C:=C) hs
   split at h
   .cases h
   rename_i l' q hq;obtain⟨e1,e2,e3,e4⟩:=Amz hC n _ _ _ (Dg (Dg ht n2) u1) hq;cases h;have:=Aoa nm l';refine⟨fun x hx=>?_,(e2.trans u1).trans n2,by omega,by omega⟩;rcases Bj.1 hx with rfl | hx
   .exact n1
   .exact e1 x hx
  .simp only[Bu]at h;obtain⟨t4,h4,h⟩:=h;cases h;obtain⟨d1,d2,d3⟩:=Lp (C:=C) h4;refine⟨fun x hx=>?_,d1.trans n2,by omega,by simp only[Fb];omega⟩;simp at hx;subst hx;exact n1
def ThQ(M C:Nat)(ts:List Tk)(t:Tp)(r:List Tk):Prop:=Cc t.nm=true/\(∀ s∈t.locals,Cc s=true)/\(∀ s∈t.body,ShS s)/\r <:+ ts/\r.length<ts.length/\Sp.szs t.body<=ts.length/\(Fj t).length+wt C r<=wt C ts
def Am0{M C:Nat}(hC:100+8*M<=C){n:Nat}{ts r:List Tk}{t:Tp}(ht:D2 ts)(hM:ts.length<=M)(h:Uq n ts=some (t,r)):ThQ M C ts t r:=by
 cases ts with
 | nil=>cases h
 | cons t0 ts=>
  have hw:=Ts C t0 ts;have qa:=Ss t0 ts;have qc:=Dg ht qa;rw[Am]at hM;rw[Uq]at h
  split at h
  .cases h
  rename_i nm t1 hn;obtain⟨n1,n2,n3,n4⟩:=Tc (C:=C) qc hn;have n5:=Uk n1;have qb:=Dg qc n2
  split at h
  .cases h
  rename_i t2 h2;obtain⟨c1,c2,c3⟩:=Lp (C:=C) h2;have qk:=Dg qb c1
  split at h
  .cases h
  rename_i l t3 hl
  have qt:(∀ s∈l,Cc s=true)/\t3 <:+ t2/\t3.length<=t2.length/\(Fb l).length+wt C t3<=wt C t2:=by
   unfold Aka at hl
   split at hl
   .rename_i hs;obtain⟨u1,u2,u3⟩:=Mj (C:=C) hs;cases hl;exact⟨by simp,u1,by omega,by simp only[Fb,C9];omega⟩
   .obtain⟨e1,e2,e3,e4⟩:=Amz (C:=C) (by omega) n _ _ _ qk hl;exact⟨e1,e2,by omega,e4⟩
  obtain⟨l1,l2,l3,l4⟩:=qt
  split at h
  .cases h
  rename_i b t4 hb;obtain⟨b1,b2,b3,b4,b5⟩:=(Acf hC n).2.1 _ _ _ (Dg qk l2) hb;cases h;have:=b5 1 (by omega);refine⟨n1,l1,b1,(((b2.trans l2).trans c1).trans n2).trans qa,by simp only[Am];omega,by simp only[Am];omega,?_⟩;unfold Fj;simp only[Al,Am,C9];omega
def Amh{M C:Nat}(hC:100+8*M<=C)(m:Nat):∀ (n:Nat) (ts:List Tk) (l:List Tp) (r:List Tk),D2 ts->ts.length<=M->Lw m n ts=some (l,r) ->
  (∀ t∈l,Cc t.nm=true)/\(∀ t∈l,∀ s∈t.locals,Cc s=true)/\(∀ t∈l,∀ s∈t.body,ShS s)/\(∀ t∈l,Sp.szs t.body<=M)/\((l.map Fj).flatten).length+wt C r<=wt C ts
 | 0,ts,l,r,ht,hM,h=>by cases h
 | n+1,ts,l,r,ht,hM,h=>by
  rw[Lw]at h
  split at h
  .split at h
   .cases h
   rename_i t q hq;obtain⟨d1,d2,d3,d4,d5,d6,d7⟩:=Am0 hC ht hM hq
   split at h
   .cases h
   rename_i l' q' qu;obtain⟨e1,e2,e3,e4,e5⟩:=Amh hC m n _ _ _ (Dg ht d4) (by omega) qu;cases h;refine⟨fun x hx=>?_,fun x hx=>?_,fun x hx=>?_,fun x hx=>?_,?_⟩
   .rcases Bj.1 hx with rfl | hx
    .exact d1
    .exact e1 x hx
   .rcases Bj.1 hx with rfl | hx
    .exact d2
    .exact e2 x hx
   .rcases Bj.1 hx with rfl | hx
    .exact d3
    .exact e3 x hx
   .rcases Bj.1 hx with rfl | hx
    .omega
    .exact e4 x hx
   .simp only[Bb,Dv,Al];omega
  .cases h;exact⟨by simp,by simp,by simp,by simp,by simp⟩
def Vt:∀ (n:Nat) (ln:Int) (l:List UInt8) (ts:List Tk),Ej n ln l=some ts->ts.length<=l.length
 | n,ln,[],ts,h=>by
  have:Ej n ln []=some []:=by cases n<;>rfl
  rw[this]at h;cases h;exact Ai _
 | 0,ln,c::r,ts,h=>by cases h
 | n+1,ln,c::r,ts,h=>by
  rw[Ej]at h
  split at h
  .have:=Vt n _ _ _ h;simp only[Am];omega
  .split at h
   .have:=Vt n _ _ _ h;simp only[Am];omega
   .split at h
    .have h1:=Vt n _ _ _ h;have h2:=Y2 (· != 10) (c::r);omega
    .split at h
     .cases h
     .rename_i k w hf;simp only[Bu]at h;obtain⟨l,hl,rfl⟩:=h;obtain⟨h1,q,h2⟩:=Abp hf;have h3:=Vt n _ _ _ hl;rw[D1]at h3;have:(c::r).length=w.length+q.length:=by rw[h2,Al]
      simp only[Am]at this h3 ⊢;omega
def Axz{s:List UInt8}{p:Gp}(h:Nn s=some p):ShG p/\(Hp p).length<=1000000000/\∀ t∈p.thrs,Sp.szs t.body<=4096:=by
 unfold Nn at h
 split at h
 .cases h
 rename_i hs
 split at h
 .cases h
 rename_i ts ht;have hl:=Vt _ _ _ _ ht;have qn:=V4 _ _ _ _ ht
 split at h
 rotate_left
 .cases h
 rename_i p' hp;cases h;unfold Z1 at hp
 split at hp
 .cases hp
 rename_i ds r hd;obtain⟨d1,d2,d3⟩:=Al7 (C:=100+8*4096) (by omega) _ _ _ _ qn hd
 split at hp
 .cases hp
 rename_i l r2 qE;obtain⟨t1,t2,t3,t4,t5⟩:=Amh (M:=4096) (C:=100+8*4096) (Ai _) _ _ _ _ _ (Dg qn d2) (by have:=d2.length_le;omega) qE
 split at hp
 .cases hp
 rename_i qC;cases hp;refine⟨⟨d1,t1,t2,t3,by simpa using qC⟩,?_,t4⟩;unfold Hp;rw[Al];simp only;have:wt (100+8*4096) ts<=(100+8*4096)*4096:=Nat.mul_le_mul_left _ (by omega);omega
/-! programs that are equal apart from lines have one text -/
def A3f:∀ {l l':List Xp},Tw l l'=true->F4 l=F4 l'
 | [],[],_=>rfl
 | x::l,y::l',h=>by
  simp only[Tw,Af]at h;simp only[F4,(Ag7 x y h.1).2.2]
 | [],_::_,h=>by cases h
 | _::_,[],h=>by cases h
mutual
theorem A70:∀ (s s':Sp),Akb s s'=true->∀ d,s.txt d=s'.txt d
 | ⟨op,line,nm,arg,iz,it,idx,ex,bz,bt,body,ez,et,els⟩,⟨op',line',nm',arg',iz',it',idx',ex',bz',bt',body',ez',et',els'⟩,h,d=>by
  simp only[Akb,Af,beq_iff_eq]at h;obtain⟨rfl,rfl,rfl,hx,hi,hb,he⟩:=h;have h1:=(Ag7 ex ex' hx).2.2;have h2:=A3f hi;have h3:=Ahu body body' hb (d+1);have h4:=Ahu els els' he (d+1);rw[Lr,Lr];simp only[Cv,h1,h2,h3.1,h4.1,h4.2]
theorem Ahu:∀ (l l':List Sp),Zi l l'=true->∀ d,Sp.txts d l=Sp.txts d l'/\l.isEmpty=l'.isEmpty
 | [],[],_,d=>⟨rfl,rfl⟩
 | x::l,y::l',h,d=>by
  simp only[Zi,Af]at h;rw[Nc,Nc,A70 x y h.1 d,(Ahu l l' h.2 d).1];exact⟨rfl,rfl⟩
 | [],_::_,h,_=>by cases h
 | _::_,[],h,_=>by cases h
end
def A0i:((List.range 256).all fun i=>match (Jz (Mw TT PT 300) af110 [.int .u8 (i:Int)] []).bind fun p=>Ex p.2 p.1 with
  | some (.bool b)=>b==Lz i
  | _=>false)=true:=by kernel_rfl
def N8(c:UInt8):Fn TT PT 110 [.int .u8 (c.toNat:Int)] (.bool (I0 c)):=by
 have hr:=Bp.1 A0i c.toNat (E1.2 c.toNat_lt)
 split at hr
 .rename_i b hv;rw[show I0 c=b from(beq_iff_eq.1 hr).symm];exact Pm Qj T110 rfl rfl hv
 .cases hr
def A0j:((List.range 256).all fun i=>match (Jz (Mw TT PT 300) af112 [.int .u8 (i:Int)] []).bind fun p=>Ex p.2 p.1 with
  | some (.bool b)=>b==R6 i
  | _=>false)=true:=by kernel_rfl
def Q5(c:UInt8):Fn TT PT 112 [.int .u8 (c.toNat:Int)] (.bool (Fx c)):=by
 have hr:=Bp.1 A0j c.toNat (E1.2 c.toNat_lt)
 split at hr
 .rename_i b hv;rw[show Fx c=b from(beq_iff_eq.1 hr).symm];exact Pm Qj T112 rfl rfl hv
 .cases hr
def Z2{p:UInt8->Bool}:∀ l:List UInt8,(∀ i,i<(l.takeWhile p).length->∃ x,l[i]?=some x/\p x=true)/\((l.takeWhile p).length<l.length->∃ x,l[(l.takeWhile p).length]?=some x/\p x=false)/\(l.takeWhile p).length<=l.length/\l.take (l.takeWhile p).length=l.takeWhile p
 | []=>⟨fun i h=>by simp at h,fun h=>by simp at h,by simp,rfl⟩
 | c::l=>by
  obtain⟨h1,h2,h3,h4⟩:=Z2 (p:=p) l;rw[Aa3];by_cases hc:p c=true
  .rw[if_pos hc];refine⟨fun i hi=>?_,fun h=>?_,by simp;omega,by simp[h4]⟩
   .cases i with
    | zero=>exact⟨c,rfl,hc⟩
    | succ i=>simpa using h1 i (by simp at hi;omega)
   .simpa using h2 (by simp at h;omega)
  .rw[if_neg hc];exact⟨fun i h=>by simp at h,fun _=>⟨c,rfl,by simpa using hc⟩,by simp,rfl⟩
def Gy{vs:List V}{σ:St}{v:V}(h:vs.all Dl=true)(he:V.tup vs=v):FR (.tup vs) σ v:=he ▸ Hk h
def Rq(c:UInt8)(n:Nat)(hn:n<256):(((c.toNat:Int))==(n:Int))=(c==UInt8.ofNat n):=by
 by_cases h:c=UInt8.ofNat n
 .subst h;simp[UInt8.toNat_ofNat,Xo hn]
 .have:(c.toNat:Int)≠n:=fun e=>h (by
   have:c.toNat=n:=by omega
   exact UInt8.toNat_inj.1 (by rw[this];simp[UInt8.toNat_ofNat,Xo hn]))
  rw[beq_eq_false_iff_ne.2 h,beq_eq_false_iff_ne.2 this]
def At4(c:UInt8):Nz c=(I0 c||(Fx c||c==95)):=by
 unfold Nz Mz I0 Fx;congr 2;have:=Rq c 95 (by decide);rw[show(c==95)=(c==UInt8.ofNat 95) from rfl,<-this];by_cases h:c.toNat=95
 .rw[h];rfl
 .rw[beq_eq_false_iff_ne.2 h];exact(beq_eq_false_iff_ne.2 (by omega)).symm
def nn(i:Nat):(0<=(i:Int))=True:=eq_true (Afw i)
def Avn(s:List UInt8)(i:Nat)(h:i<=s.length):Ry (.str s) none (some (iV (i:Int)))=some (.str (s.take i)):=by
 rw[show Ry (.str s) none (some (iV (i:Int)))=(Dq none 0).bind fun a=>(Dq (some (iV (i:Int))) s.length).bind fun b=>if a<=b/\b<=s.length then some (V.str ((s.take b).drop a)) else none from rfl];have e:Dq (some (iV (i:Int))) s.length=some i:=by simp[Dq]
 rw[e];simp only[Dq,Db];rw[if_pos ⟨Au _,h⟩,I4]
set_option maxHeartbeats 2000000 in
def A71(c:UInt8)(r:List UInt8)(hl:(c::r).length<=4096):Fn TT PT 111 [.str (c::r)] (if 12<(E6 c r).length then .tup [.agg (Tk.row Tk.zero),iV 2] else .tup [.agg (Tk.row ⟨if Hv (E6 c r) then 3 else 1,E6 c r,0⟩),iV 0]):=by
 obtain⟨w1,w2,w3,w4⟩:=Z2 (p:=Nz) r;have hW:(c::r).take (E6 c r).length=E6 c r:=by simp[E6,w4]
 have qy:(E6 c r).length=(r.takeWhile Nz).length+1:=by simp[E6]
 rw[Am]at hl;generalize hn:(E6 c r).length=n at hW qy ⊢;refine Bo T111 rfl ?_;simp only[go_sem];refine Bn (α:=Nat) (fun i=>n - i) (fun i=>[(0,.str (c::r)),(2,.ptr 0 0 0),(4,iV (i:Int))]) (fun _=>[.row [iV 0,.str [],iV 0] 130 0 0]) (fun i=>1<=i/\i<=n) ?_ 1 ⟨by omega,by omega⟩;rintro i ⟨h1,h2⟩ ih;refine Bl Bbt ?_;by_cases hi:i<n
 .obtain⟨x,x1,x2⟩:=w1 (i - 1) (by omega)
  have x3:(c::r)[i]?=some x:=by
   obtain⟨j,rfl⟩:∃ j,i=j+1:=⟨i - 1,by omega⟩;simpa using x1
  have g1:decide ((i:Int)<((r.length+1:Nat):Int))=true:=by simp;omega
  have qr:((x.toNat:Int)==95)=(x==95):=Rq x 95 (by decide);have qq:=A0 (show i<r.length+1 by omega);have qm:=A2 (show i<9223372036854775807 by omega);rw[At4]at x2;by_cases hL:I0 x=true
  .simp only[go_sem,qq,nn,x3];refine Ad (N8 x) (by simp only[go_sem]) ?_;simp only[go_sem,hL,qm];exact As (ih (i+1) (by omega) (by omega)) rfl
  .have hL:I0 x=false:=by simpa using hL
   by_cases hD:Fx x=true
   .simp only[go_sem,qq,nn,x3];refine Ad (N8 x) (by simp only[go_sem]) ?_;simp only[go_sem,hL,nn,x3];refine Ad (Q5 x) (by simp only[go_sem]) ?_;simp only[go_sem,hD,qm];exact As (ih (i+1) (by omega) (by omega)) rfl
   .have hD:Fx x=false:=by simpa using hD
    rw[hL,hD]at x2;simp only[U6]at x2;simp only[go_sem,qq,nn,x3];refine Ad (N8 x) (by simp only[go_sem]) ?_;simp only[go_sem,hL,nn,x3];refine Ad (Q5 x) (by simp only[go_sem]) ?_;simp only[go_sem,hD,nn,x3,qr,x2,qm];exact As (ih (i+1) (by omega) (by omega)) rfl
 .obtain rfl:i=n:=by omega
  have gi:(i<=r.length+1)=True:=eq_true (by omega)
  have qz:Ry (.str (c::r)) none (some (iV (i:Int)))=some (.str (E6 c r)):=by
   rw[Avn _ _ (by simp;omega),hW]
  by_cases hb:i<r.length+1
  .obtain⟨x,x1,x2⟩:=w2 (by omega);have x3:(c::r)[i]?=some x:=by rw[qy];simpa using x1
   have qr:((x.toNat:Int)==95)=(x==95):=Rq x 95 (by decide);have qq:=A0 (show i<r.length+1 by omega);rw[At4]at x2;simp only[Bool.or_eq_false_iff]at x2;obtain⟨hL,hD,h9⟩:=x2;simp only[go_sem,qq,nn,x3];refine Ad (N8 x) (by simp only[go_sem]) ?_;simp only[go_sem,hL,nn,x3];refine Ad (Q5 x) (by simp only[go_sem]) ?_;simp only[go_sem,hD,nn,x3,qr,h9];by_cases qj:12<i
   .have qh:decide ((12:Int)<(i:Int))=true:=by simp;omega
    rw[if_pos qj];simp only[go_sem,gt_iff_lt,qh];exact Gy (by simp only[go_sem]) rfl
   .have qh:decide ((12:Int)<(i:Int))=false:=by simp;omega
    rw[if_neg qj];simp only[go_sem,gt_iff_lt,qh,nn,gi,hW,Au,true_and,if_true,Db];refine F7 P149 rfl (by rfl) ?_;cases hk:Hv (E6 c r)
    .simp only[go_sem,hk,nn,gi,hW,Au,true_and,if_true,Db];exact Gy (by simp only[go_sem]) rfl
    .simp only[go_sem,hk,nn,gi,hW,Au,true_and,if_true,Db];exact Gy (by simp only[go_sem]) rfl
  .simp only[go_sem,Bq (show r.length+1<=i by omega)];by_cases qj:12<i
   .have qh:decide ((12:Int)<(i:Int))=true:=by simp;omega
    rw[if_pos qj];simp only[go_sem,gt_iff_lt,qh];exact Gy (by simp only[go_sem]) rfl
   .have qh:decide ((12:Int)<(i:Int))=false:=by simp;omega
    rw[if_neg qj];simp only[go_sem,gt_iff_lt,qh,nn,gi,hW,Au,true_and,if_true,Db];refine F7 P149 rfl (by rfl) ?_;cases hk:Hv (E6 c r)
    .simp only[go_sem,hk,nn,gi,hW,Au,true_and,if_true,Db];exact Gy (by simp only[go_sem]) rfl
    .simp only[go_sem,hk,nn,gi,hW,Au,true_and,if_true,Db];exact Gy (by simp only[go_sem]) rfl
