/- Plain: what is parsed is shaped and not much longer than its tokens. -/
import Derived.Test.YtphikjgngompaacGreatDoorUi
import Derived.Lib.SlicesCompact
set_option linter.all false
namespace Go.Proofs.YtphikjgngompaacGreatDoor.KM
open Go
theorem Aes{p:UInt8->Bool}:∀ {l:List UInt8} {x:UInt8},x∈l.takeWhile p->p x=true
 | [],x,h=>by cases h
 | c::l,x,h=>by
  rw[Abq]at h
  split at h
  .rename_i hc;rcases B7.1 h with rfl | h
   .exact hc
   .exact Aes h
  grind
def D9(ts:List Tk):Prop:=∀ t∈ts,(t.kind=1->B3 t.text=true)/\(t.kind=2->0<=J6 t.text/\J6 t.text<=9223372036854775807)
theorem Dq{a b:List Tk}(h:D9 b)(hs:a <:+ b):D9 a:=fun t ht=>h t (hs.subset ht)
def wt(C:Nat)(ts:List Tk):Nat:=C*ts.length
def Uf(C:Nat)(t:Tk)(ts:List Tk):wt C (t::ts)=C+wt C ts:=by grind[wt]
theorem M5{s:List UInt8}{ts:List Tk}{C:Nat}(h:A0 s ts=true):ts.tail <:+ ts/\ts.tail.length+1=ts.length/\wt C ts=C+wt C ts.tail:=by
 cases ts with
 | nil=>cases h
 | cons t r=>exact⟨Tg t r,rfl,Uf C t r⟩
def Bbz{qi:Nat}{ts:List Tk}{C:Nat}(h:I5 qi ts≠0):ts.tail <:+ ts/\ts.tail.length+1=ts.length/\wt C ts=C+wt C ts.tail:=by
 cases ts with
 | nil=>exact absurd rfl h
 | cons t r=>exact⟨Tg t r,rfl,Uf C t r⟩
theorem U2{l:List UInt8}(h:B3 l=true):l.length<=12:=by
 obtain⟨c,cs,rfl,-,-,h,-⟩:=A6r h;exact h
theorem A30{op:Int}(h:6<=op/\op<=18)(x y:Xp):(Mp op x y).txt.length<=x.txt.length+y.txt.length+8:=by
 unfold Mp;rw[Bbc h];have h1:=(N9 (x.op,x.txt) (Ik op)).2;have h2:=(N9 (y.op,y.txt) (Bu op+1)).2
 grind[Auh]
def A7f{op:Int}(h:op=4\/op=5)(x:Xp):(Rb op x).txt.length<=x.txt.length+4:=by
 unfold Rb;rw[(Bgq h).1];have h1:=(N9 (x.op,x.txt) 6).2
 grind[Auh]
def XQ(C:Nat)(ts:List Tk)(x:Xp)(r:List Tk):Prop:=ShE x/\r <:+ ts/\r.length<ts.length/\x.txt.length+wt C r<=wt C ts
def Wb{C:Nat}(hC:25<=C):∀ n,(∀ qi ts x r,D9 ts->pe n qi ts=some (x,r)->XQ C ts x r) /\
  (∀ qi x0 ts x r,D9 ts->ShE x0->lp n qi x0 ts=some (x,r)->ShE x/\r <:+ ts/\r.length<=ts.length/\x.txt.length+wt C r<=x0.txt.length+wt C ts) /\
  (∀ ts x r,D9 ts->pu n ts=some (x,r)->XQ C ts x r)/\(∀ ts x r,D9 ts->pp n ts=some (x,r)->XQ C ts x r)
 | 0=>⟨fun _ _ _ _ _ h=>by grind[pe],fun _ _ _ _ _ _ _ h=>by grind[lp],fun _ _ _ _ h=>by grind[pu],fun _ _ _ _ h=>by grind[pp]⟩
 | n+1=>by
  obtain⟨qk,ql,qq,qT⟩:=Wb hC n;refine⟨fun qi ts x r ht h=>?_,fun qi x0 ts x r ht h0 h=>?_,fun ts x r ht h=>?_,fun ts x r ht h=>?_⟩
  .rw[pe]at h
   split at h
   .grind
   .split at h
    .cases h
    .rename_i y q hy;obtain⟨a1,a2,a3,a4⟩:=qk _ _ _ _ ht hy;obtain⟨b1,b2,b3,b4⟩:=ql _ _ _ _ _ (Dq ht a2) a1 h;exact⟨b1,b2.trans a2,by omega,by omega⟩
  .rw[lp]at h
   split at h
   .grind
   .rename_i ho;obtain⟨t1,t2,t3⟩:=Bbz (C:=C) ho;obtain⟨o1,-,-⟩:=A6s ho
    split at h
    .cases h
    .rename_i y q hy;obtain⟨a1,a2,a3,a4⟩:=qk _ _ _ _ (Dq ht t1) hy;have hs:ShE (Mp (I5 qi ts) x0 y):=.bin o1 h0 a1
     grind[A30,Dq]
  .have un:∀ (op:Int),op=4\/op=5->∀ s,A0 s ts=true->(match pu n ts.tail with
     | none=>none
     | some (x,r)=>some (Rb op x,r))=some (x,r)->XQ C ts x r:=fun op ho s hs h=>by
    obtain⟨t1,t2,t3⟩:=M5 (C:=C) hs
    split at h
    .cases h
    .rename_i y q hy;cases h;obtain⟨a1,a2,a3,a4⟩:=qq _ _ _ (Dq ht t1) hy;have:=A7f ho y;exact⟨.un ho a1,a2.trans t1,by omega,by omega⟩
   rw[pu]at h
   split at h
   .rename_i hs;exact un 4 (.inl rfl) _ hs h
   .split at h
    .rename_i hs;exact un 5 (.inr rfl) _ hs h
    grind
  .cases ts with
   | nil=>grind[pp]
   | cons t ts=>
    have hw:=Uf C t ts;have qa:=Tg t ts;have qc:=Dq ht qa;obtain⟨k1,k2⟩:=ht t Cz;rw[pp]at h
    split at h
    .rename_i hk;cases h;refine⟨.num (k2 hk),qa,by simp,?_⟩;have:=Wj (J6 t.text);rw[F2];simp only[Em,if_true];omega
    .split at h
     .rename_i hk;have hn:=k1 hk;have qQ:=U2 hn
      split at h
      .rename_i hs;obtain⟨t1,t2,t3⟩:=M5 (C:=C) hs
       split at h
       .cases h
       .rename_i y q hy;obtain⟨a1,a2,a3,a4⟩:=qk _ _ _ _ (Dq qc t1) hy
        split at h
        .rename_i qo;obtain⟨u1,u2,u3⟩:=M5 (C:=C) qo;cases h;refine⟨.idx hn a1,((u1.trans a2).trans t1).trans qa,by grind,?_⟩
         grind[F2,Em]
        grind
      .cases h;refine⟨.name hn,qa,by simp,?_⟩;rw[F2];simp only[Em,show((2:Int)=1)=False from eq_false AA,if_false,if_true];omega
     .split at h
      .split at h
       .cases h
       .rename_i y q hy;obtain⟨a1,a2,a3,a4⟩:=qk _ _ _ _ qc hy
        split at h
        .rename_i qo;obtain⟨u1,u2,u3⟩:=M5 (C:=C) qo;cases h;exact⟨a1,(u1.trans a2).trans qa,by grind,by omega⟩
        grind
      grind
/-! scanning gives right tokens -/
def Wk:∀ (n:Nat) (ln:Int) (l:List UInt8) (ts:List Tk),Er n ln l=some ts->D9 ts
 | n,ln,[],ts,h=>by
  have:Er n ln []=some []:=by cases n<;>rfl
  rw[this]at h;cases h;intro t ht;cases ht
 | 0,ln,c::r,ts,h=>by cases h
 | n+1,ln,c::r,ts,h=>by
  rw[Er]at h
  split at h
  .exact Wk n _ _ _ h
  .split at h
   .exact Wk n _ _ _ h
   .split at h
    .exact Wk n _ _ _ h
    .split at h
     .cases h
     .rename_i k w hf;simp only[Ci]at h;obtain⟨l,hl,rfl⟩:=h;intro t ht;rcases B7.1 ht with rfl | ht
      .rw[V1]at hf;simp only
       split at hf
       .rename_i hc
        split at hf
        .cases hf
        .rename_i qK;cases hf;refine⟨fun hk=>?_,fun hk=>?_⟩
         .split at hk
          .cases hk
          .rename_i qN;refine Akj (by simp[Fa]) AA (by grind) fun j hj=>?_
           have qD:∀ d∈Fa c r,O3 d=true:=fun d hd=>by
            rcases B7.1 hd with rfl | hd
            .grind[Bbb]
            grind[Aes]
           cases j with
           | zero=>
            have h1:Lz c.toNat=true:=hc
            grind[Jt,Fa]
           | succ j=>
            have hm:((Fa c r).getD (j+1) 0)∈Fa c r:=by rw[Fl,Cb hj];exact Nw _
            have hi:=qD _ hm;unfold O3 Nj at hi;unfold Jt
            grind
         omega
       .split at hf
        .rename_i hc
         split at hf
         .cases hf
         .split at hf
          .rename_i qn;cases hf;refine⟨(fun hk=>by cases hk),fun _=>?_⟩
           have hd:La (Ez c r):=fun d hd=>by
            rcases B7.1 hd with rfl | hd
            .exact hc
            grind[Aes]
           rw[Ap2 hd]at qn;have hv:=of_decide_eq_true qn
           grind[Ar0,Ez]
          grind
        grind
      .exact Wk n _ _ _ hl t ht
/-! statements -/
def One(C:Nat)(ts r:List Tk):Prop:=r <:+ ts/\r.length+1=ts.length/\wt C ts=C+wt C r
def Asa(C:Nat)(t:Tk)(r:List Tk):One C (t::r) r:=⟨Tg t r,rfl,Uf C t r⟩
def Ts{C:Nat}{ts r:List Tk}{nm:List UInt8}(ht:D9 ts)(h:Dg ts=some (nm,r)):B3 nm=true/\One C ts r:=by
 cases ts with
 | nil=>cases h
 | cons t ts=>
  unfold Dg at h;simp only at h
  split at h
  .rename_i hk;cases h;exact⟨(ht t Cz).1 hk,Asa C t _⟩
  grind
def Mi{C:Nat}{s:List UInt8}{ts r:List Tk}(h:Ea s ts=some r):One C ts r:=by
 unfold Ea at h
 split at h
 .rename_i hs;cases h;obtain⟨h1,h2,h3⟩:=M5 (C:=C) hs;exact⟨h1,h2,h3⟩
 grind
def Adf{C:Nat}{ts r:List Tk}{n:Int}(ht:D9 ts)(h:H9 ts=some (n,r)):(0<=n/\n<=9223372036854775807)/\One C ts r:=by
 cases ts with
 | nil=>cases h
 | cons t ts=>
  unfold H9 at h;simp only at h
  split at h
  .rename_i hk;cases h;exact⟨(ht t Cz).2 hk,Asa C t _⟩
  grind
def Ahq:∀ {l:List (List UInt8 × Int)} {s:List UInt8} {v:Int},l.lookup s=some v->∃ a,(a,v)∈l
 | [],_,_,h=>by cases h
 | (a,w)::l,s,v,h=>by
  rw[Ag2]at h
  split at h
  .grind
  .obtain⟨b,hb⟩:=Ahq h;grind
def Asb(s:List UInt8):Es s=0\/(2<=Es s/\Es s<=15):=by
 unfold Es
 cases h:wordTab.lookup s with
 | none=>grind
 | some v=>
  obtain⟨a,ha⟩:=Ahq h;have:(wordTab.all fun p=>decide (2<=p.2/\p.2<=15))=true:=by decide
  grind
def Asd(s:List UInt8):H6 s=0\/(1<=H6 s/\H6 s<=6):=by
 unfold H6
 cases h:declTab.lookup s with
 | none=>grind
 | some v=>
  obtain⟨a,ha⟩:=Ahq h;have:(declTab.all fun p=>decide (1<=p.2/\p.2<=6))=true:=by decide
  grind
def Nh(s:Sp):Nat:=if Fe s.op then s.ex.txt.length else 0
def Bb0(op:Int):(C9 op).length<=11:=by
 unfold C9
 split<;>simp
def Bb1(s:Sp):(Cu s).length<=20+s.nm.length+s.arg.length+(F6 s.idx).length+Nh s:=by
 have hw:=Bb0 s.op;unfold Cu Nh Fe
 grind
def Bgz(d:Nat)(s:Sp):(s.txt d).length<=6*d+40+s.nm.length+s.arg.length+(F6 s.idx).length+Nh s+(if B6 s.op then(Sp.txts (d+1) s.body).length+(Sp.txts (d+1) s.els).length else 0):=by
 have hh:=Bb1 s;rw[M3]
 have h5:(if s.els.isEmpty=true then [] else Et d++125::32::101::108::115::101::32::123::10::Sp.txts (d+1) s.els).length<=2*d+9+(Sp.txts (d+1) s.els).length:=by
  split
  .simp
  .simp[K4];omega
 cases B6 s.op
 .simp only[Aj,K4,Hz,if_false,Be,Dn];omega
 .simp only[Aj,K4,if_true,Be,Dn];omega
def SQ(M C:Nat)(ts:List Tk)(s:Sp)(r:List Tk):Prop:=ShS s/\r <:+ ts/\r.length<ts.length/\s.sz+r.length<=ts.length/\∀ d,d+ts.length<=M->(s.txt d).length+wt C r<=wt C ts
def LQ(M C:Nat)(ts:List Tk)(l:List Sp)(r:List Tk):Prop:=(∀ s∈l,ShS s)/\r <:+ ts/\r.length<ts.length/\Sp.szs l+r.length<ts.length/\∀ d,d+ts.length<=M->(Sp.txts d l).length+wt C r<=wt C ts
def Sx{M C:Nat}(hC:100+8*M<=C){ts r:List Tk}{s:Sp}(hs:ShS s)(h1:r <:+ ts)(h2:r.length<ts.length)(h3:Sp.szs s.body+Sp.szs s.els+1+r.length<=ts.length)
  (h4:∀ d,d+ts.length<=M->C+(F6 s.idx).length+Nh s+((Sp.txts (d+1) s.body).length+(Sp.txts (d+1) s.els).length)+wt C r<=wt C ts):SQ M C ts s r:=by
 refine⟨hs,h1,h2,by grind[Lh],fun d hd=>?_⟩;have h5:=h4 d hd;have h6:=Bgz d s
 have h7:s.nm.length<=12/\s.arg.length<=12:=by
  cases hs with
  | mk a1 a2 a3 a4 a5 _ _ _ _ _ _ _ _ _=>
   constructor
   .cases hn:Gx s.op
    .grind[U2]
    grind
   .by_cases ha:s.op=15
    .grind[U2]
    grind
 grind
theorem A1y{M C:Nat}(hC:100+8*M<=C){n:Nat}{line:Int}{ts:List Tk}{s:Sp}{r:List Tk}(ht:D9 ts)(h:U8 n line ts=some (s,r)):SQ M C ts s r:=by
 unfold U8 at h
 split at h
 .cases h
 rename_i nm t1 hn;obtain⟨n1,n2,n3,n4⟩:=Ts (C:=C) ht hn;have qb:=Dq ht n2
 split at h
 .cases h
 rename_i ix t2 hi
 have qE:ix.length<=1/\(∀ x∈ix,ShE x)/\t2 <:+ t1/\t2.length<=t1.length/\(F6 ix).length+wt C t2<=wt C t1:=by
  unfold Amy at hi
  split at hi
  .rename_i hs;obtain⟨u1,u2,u3⟩:=M5 (C:=C) hs
   split at hi
   .cases hi
   .rename_i x q hx;obtain⟨a1,a2,a3,a4⟩:=(Wb (C:=C) AA n).1 _ _ _ _ (Dq qb u1) hx;simp only[Ci]at hi;obtain⟨q',hq,hi⟩:=hi;cases hi;obtain⟨b1,b2,b3⟩:=Mi (C:=C) hq
    grind[Aiz]
  .simp_all [F6]
 obtain⟨i1,i2,i3,i4,i5⟩:=qE;have qj:=Dq qb i3
 split at h
 .cases h
 rename_i t3 h3;obtain⟨c1,c2,c3⟩:=Mi (C:=C) h3;have qG:=Dq qj c1
 split at h
 .cases h
 rename_i x t4 hx;obtain⟨a1,a2,a3,a4⟩:=(Wb (C:=C) AA n).1 _ _ _ _ qG hx;simp only[Ci]at h;obtain⟨t5,h5,h⟩:=h;cases h;obtain⟨d1,d2,d3⟩:=Mi (C:=C) h5;refine Sx hC (.mk ⟨by simp[Au],by simp[Au]⟩ (by simp[Au,Gx]) (fun _=>n1) AK AK i1 AK i2 (fun _=>a1) (by simp[Au,Fe]) AK AK AK AK) ((((d1.trans a2).trans c1).trans i3).trans n2) AA (by grind[Au,Sp.szs]) fun d hd=>?_
 grind[Au,Nh,Sp.txts]
def Adg{M C:Nat}(hC:100+8*M<=C):∀ n,(∀ ts s r,D9 ts->I7 n ts=some (s,r)->SQ M C ts s r)/\(∀ ts l r,D9 ts->Fz n ts=some (l,r)->LQ (M+1) C ts l r)/\(∀ ts l r,D9 ts->Ms n ts=some (l,r)->LQ M C ts l r)
 | 0=>⟨fun _ _ _ _ h=>by grind[I7],fun _ _ _ _ h=>by grind[Fz],fun _ _ _ _ h=>by grind[Ms]⟩
 | n+1=>by
  obtain⟨qk,ql,qq⟩:=Adg hC n;refine⟨fun ts s r ht h=>?_,fun ts l r ht h=>?_,fun ts l r ht h=>?_⟩
  .cases ts with
   | nil=>grind[I7]
   | cons t ts=>
    have hw:=Uf C t ts;have qa:=Tg t ts;have qc:=Dq ht qa;rw[I7]at h
    split at h
    .grind[A1y]
    split at h
    rotate_left
    .cases h
    have hr:=Asb t.text;generalize Es t.text=w at h hr
    split at h
    .cases h
    split at h
    .rename_i qf
     split at h
     .cases h
     rename_i x t1 hx;obtain⟨a1,a2,a3,a4⟩:=(Wb (C:=C) AA n).1 _ _ _ _ qc hx;have qb:=Dq qc a2
     split at h
     .cases h
     rename_i b t2 hb;obtain⟨b1,b2,b3,b4,b5⟩:=ql _ _ _ qb hb;have qj:=Dq qb b2
     split at h
     .rename_i qI;obtain⟨rfl,hs⟩:=qI;obtain⟨u1,u2,u3⟩:=M5 (C:=C) hs
      split at h
      .cases h
      rename_i e t3 he;obtain⟨e1,e2,e3,e4,e5⟩:=ql _ _ _ (Dq qj u1) he;cases h;refine Sx hC (.mk ⟨by simp[Au],by simp[Au]⟩ AK (by simp[Au,Gx]) AK AK AK AK AK (fun _=>a1) (by simp[Au,Fe]) (by simp[Au,B6]) AK b1 e1) ((((e2.trans u1).trans b2).trans a2).trans qa) (by grind) (by grind) fun d hd=>?_
      grind[Au,Nh,F6]
     .cases h;refine Sx hC (.mk (by grind[Au]) AK (by rcases qf with rfl | rfl<;>simp[Au,Gx]) (by grind[Au]) AK AK AK AK (fun _=>a1) (by rcases qf with rfl | rfl<;>simp[Au,Fe]) (by rcases qf with rfl | rfl<;>simp[Au,B6]) AK b1 AK) ((b2.trans a2).trans qa) (by grind) (by grind[Au,Sp.szs]) fun d hd=>?_
      rw[Be]at hd;have:=b5 (d+1) AA
      have:Fe w=true:=by rcases qf with rfl | rfl<;>rfl
      simp only[Au,Nh,this,F6,Dn,if_true,Sp.txts];omega
    .split at h
     .rename_i qg
      split at h
      .cases h
      rename_i b t2 hb;obtain⟨b1,b2,b3,b4,b5⟩:=ql _ _ _ qc hb;cases h;refine Sx hC (.mk (by grind[Au]) AK (by rcases qg with rfl | rfl<;>simp[Au,Gx]) (by grind[Au]) AK AK AK AK (by rcases qg with rfl | rfl<;>simp[Au,Fe]) (fun _=>⟨rfl,rfl,rfl,rfl⟩) (by rcases qg with rfl | rfl<;>simp[Au,B6]) AK b1 AK) (b2.trans qa) (by grind) (by grind[Au,Sp.szs]) fun d hd=>?_
      rw[Be]at hd;have:=b5 (d+1) AA
      have:Fe w=false:=by rcases qg with rfl | rfl<;>rfl
      simp only[Au,Nh,this,F6,Dn,Hz,if_false,Sp.txts];omega
     .split at h
      .cases h
      rename_i nm t1 hn;obtain⟨n1,n2,n3,n4⟩:=Ts (C:=C) qc hn;have qb:=Dq qc n2
      split at h
      .rename_i qd
       split at h
       .cases h
       rename_i b t2 hb;obtain⟨b1,b2,b3,b4,b5⟩:=ql _ _ _ qb hb;cases h;refine Sx hC (.mk (by grind[Au]) (by rcases qd with rfl | rfl | rfl<;>simp[Au,Gx]) (fun _=>n1) (by grind[Au]) AK AK AK AK (by rcases qd with rfl | rfl | rfl<;>simp[Au,Fe]) (fun _=>⟨rfl,rfl,rfl,rfl⟩) (by rcases qd with rfl | rfl | rfl<;>simp[Au,B6]) AK b1 AK) ((b2.trans n2).trans qa) (by grind) (by grind[Au,Sp.szs]) fun d hd=>?_
       rw[Be]at hd;have:=b5 (d+1) AA
       have:Fe w=false:=by rcases qd with rfl | rfl | rfl<;>rfl
       simp only[Au,Nh,this,F6,Dn,Hz,if_false,Sp.txts];omega
      .split at h
       .rename_i qx;subst qx
        split at h
        .cases h
        rename_i x t2 hx;obtain⟨a1,a2,a3,a4⟩:=(Wb (C:=C) AA n).1 _ _ _ _ qb hx;simp only[Ci]at h;obtain⟨t3,h3,h⟩:=h;cases h;obtain⟨d1,d2,d3⟩:=Mi (C:=C) h3;refine Sx hC (.mk ⟨by simp[Au],by simp[Au]⟩ (by simp[Au,Gx]) (fun _=>n1) AK AK AK AK AK (fun _=>a1) (by simp[Au,Fe]) AK AK AK AK) (((d1.trans a2).trans n2).trans qa) (by grind) (by grind[Au,Sp.szs]) fun d hd=>?_
        grind[Au,Nh,F6,Sp.txts]
       .split at h
        .rename_i qy;subst qy
         split at h
         .cases h
         rename_i ar t2 ha;obtain⟨a1,a2,a3,a4⟩:=Ts (C:=C) qb ha;simp only[Ci]at h;obtain⟨t3,h3,h⟩:=h;cases h;obtain⟨d1,d2,d3⟩:=Mi (C:=C) h3;refine Sx hC (.mk ⟨by simp[Au],by simp[Au]⟩ (by simp[Au,Gx]) (fun _=>n1) (fun _=>a1) AK AK AK AK (by simp[Au,Fe]) (fun _=>⟨rfl,rfl,rfl,rfl⟩) AK AK AK AK) (((d1.trans a2).trans n2).trans qa) (by grind) (by grind[Au,Sp.szs]) fun d hd=>?_
         grind[Au,Nh,Fe,F6,Sp.txts]
        .simp only[Ci]at h;obtain⟨t3,h3,h⟩:=h;cases h;obtain⟨d1,d2,d3⟩:=Mi (C:=C) h3;have qz:w=9\/w=10\/w=11\/w=12\/w=13:=by omega
         refine Sx hC (.mk (by grind[Au]) (by rcases qz with rfl | rfl | rfl | rfl | rfl<;>simp[Au,Gx]) (fun _=>n1) (by grind[Au]) AK AK AK AK (by rcases qz with rfl | rfl | rfl | rfl | rfl<;>simp[Au,Fe]) (fun _=>⟨rfl,rfl,rfl,rfl⟩) AK AK AK AK) ((d1.trans n2).trans qa) (by grind) (by grind[Au,Sp.szs]) fun d hd=>?_
         have:Fe w=false:=by rcases qz with rfl | rfl | rfl | rfl | rfl<;>rfl
         simp only[Au,Nh,this,F6,Dn,Hz,if_false,Sp.txts];omega
  .rw[Fz]at h
   split at h
   .rename_i hs;obtain⟨u1,u2,u3⟩:=M5 (C:=C) hs;obtain⟨b1,b2,b3,b4,b5⟩:=qq _ _ _ (Dq ht u1) h;exact⟨b1,b2.trans u1,by omega,by omega,fun d hd=>by grind⟩
   grind
  .rw[Ms]at h
   split at h
   .rename_i hs;obtain⟨u1,u2,u3⟩:=M5 (C:=C) hs;cases h;exact⟨by simp,u1,by omega,by grind[Sp.szs],fun d hd=>by grind[Sp.txts]⟩
   .split at h
    .cases h
    rename_i s t1 hs;obtain⟨a1,a2,a3,a4,a5⟩:=qk _ _ _ ht hs
    split at h
    .cases h
    rename_i l' t2 hl;obtain⟨b1,b2,b3,b4,b5⟩:=qq _ _ _ (Dq ht a2) hl;cases h;refine⟨fun x hx=>?_,b2.trans a2,by omega,by grind[Sp.szs],fun d hd=>?_⟩
    .grind
    grind[N2]
def A1z(k:IntKind)(n d:Nat):Ed (some (.int k (n:Int))) d=some n:=by
 simp only[Ed];rw[if_pos AA,Mv]
attribute [go_sem ↓] A1z
attribute [go_sem] Ab5 As X0
set_option maxHeartbeats 1000000 in
def Bg0(p:Gp)(hb:C6 p.row<=1000000000):Fn TT PT 71 [.agg p.row] (.bool (shG p)):=by
 obtain⟨dz,dt,decls,tz,tt,thrs⟩:=p;rw[Alz]at hb;simp only at hb;have b1:=Lf (f:=Dp.row) (fun x=>by grind[Bms]) decls;have b2:=Lf (f:=Tp.row) (fun x=>by grind[Aar]) thrs;have n1:(decls.map Dp.row).length=decls.length:=Av ..;have n2:(thrs.map Tp.row).length=thrs.length:=Av ..;obtain⟨R,hR⟩:∃ b,b=shG ⟨dz,dt,decls,tz,tt,thrs⟩:=⟨_,rfl⟩;rw[<-hR];unfold shG at hR;simp only at hR;unfold Gp.row;simp only;refine Bg T71 rfl ?_;simp only[go_sem];refine Bb (α:=Nat) (fun i=>decls.length - i) (fun i=>[(1,.ptr 0 0 0),(3,iV (i:Int))]) (fun _=>[.row [SL dz dt (decls.map Dp.row),SL tz tt (thrs.map Tp.row)] 34 0 0]) (fun i=>i<=decls.length/\decls.all Vd=(decls.drop i).all Vd) ?_ 0 ⟨As _,rfl⟩;rintro i ⟨hi,hc⟩ ih;refine Ay Bld ?_;rcases Az i decls.length with h' | h'
 .obtain⟨x,hx,hd,hm⟩:=Bk h';rw[hd,B5]at hc;have hf:=Bgy x;have qe:x.row=[iV x.kind,iV x.line,.str x.nm,iV x.size,iV x.init,.str x.on]:=rfl;rw[qe]at hf;cases hx1:Vd x
  .rw[hx1]at hf hc;obtain rfl:R=false:=by grind
   simp only[go_sem,n1,Aq h',Ak,hx,qe];refine Ab hf AB ?_;simp only[go_sem,Bc];exact Ae rfl rfl
  .rw[hx1]at hf hc;simp only[go_sem,n1,Aq h',Ak,hx,qe];refine Ab hf AB ?_;simp only[go_sem,Ba,Aw (show i<9223372036854775807 by omega)];exact Ai (ih (i+1) AA ⟨h',by grind⟩) rfl
 .rw[D4 h']at hc;rw[hc]at hR;clear ih hc hi;simp only[go_sem,n1,Bj h'];refine Bb (α:=Nat × St) (fun a=>thrs.length - a.1) (fun a=>[(1,.ptr 0 0 0),(4,iV (a.1:Int))]) (fun a=>a.2) (fun a=>a.1<=thrs.length/\a.2[0]?=some (.row [SL dz dt (decls.map Dp.row),SL tz tt (thrs.map Tp.row)] 34 0 0)/\thrs.all shT=(thrs.drop a.1).all shT) ?_ (0,_) ⟨As _,rfl,rfl⟩;rintro⟨i,s⟩ ⟨hi,hs,hc⟩ ih;simp only at hi hc hs ih;refine Ay Blf ?_;rcases Az i thrs.length with h' | h'
  .obtain⟨x,hx,hd,hm⟩:=Bk h';rw[hd,B5]at hc;have qA:=Jy (f:=Tp.row) hm;obtain⟨nm,line,lz,lt,locals,bz,bt,body⟩:=x;rw[Aar]at qA;simp only at qA;have b3:=Lf (f:=fun s=>[V.str s]) (fun x=>by grind[C6,V.bulk]) locals;have b4:=Lf (f:=Sp.row) (fun x=>by grind[Ng]) body;have n3:(locals.map fun s=>[V.str s]).length=locals.length:=Av ..;have qr:shT ⟨nm,line,lz,lt,locals,bz,bt,body⟩=false->R=false:=fun h=>by grind
   have qR:shT ⟨nm,line,lz,lt,locals,bz,bt,body⟩=(locals.all B3&&(B3 nm&&Lb body)):=rfl;have qe:Tp.row ⟨nm,line,lz,lt,locals,bz,bt,body⟩=[.str nm,iV line,SL lz lt (locals.map fun x=>[V.str x]),SL bz bt (body.map Sp.row)]:=rfl;obtain⟨s',qw⟩:∃ s',s'=s++[Ob.row [.str nm,iV line,SL lz lt (locals.map fun x=>[V.str x]),SL bz bt (body.map Sp.row)] 86 0 0]:=⟨_,rfl⟩;have k1:s'[s.length]?=some (.row [.str nm,iV line,SL lz lt (locals.map fun x=>[V.str x]),SL bz bt (body.map Sp.row)] 86 0 0):=by rw[qw,Fk (Am _),Iu];rfl
   have k0:s'[0]?=some (.row [SL dz dt (decls.map Dp.row),SL tz tt (thrs.map Tp.row)] 34 0 0):=by rw[qw];exact Bt hs
   simp only[go_sem,hs,n2,Aq h',Ak,hx,qe];rw[<-qw];refine Bb (α:=Nat) (fun k=>locals.length - k) (fun k=>[(1,.ptr 0 0 0),(4,iV (i:Int)),(5,.ptr s.length 0 0),(6,iV (k:Int))]) (fun _=>s') (fun k=>k<=locals.length/\locals.all B3=(locals.drop k).all B3) ?_ 0 ⟨As _,rfl⟩;rintro k ⟨hk,hl⟩ jh;refine Ay Ble ?_;rcases Az k locals.length with g' | g'
   .obtain⟨y,hy,qJ,qS⟩:=Bk g';rw[qJ,B5]at hl;have hf:=Rt y;cases hy1:B3 y
    .rw[hy1]at hf hl;obtain rfl:=qr (by grind);simp only[go_sem,k1,n3,Aq g',Ak,hy];refine Ab hf AB ?_;simp only[go_sem,Bc];exact Ae rfl rfl
    .rw[hy1]at hf hl;simp only[go_sem,k1,n3,Aq g',Ak,hy];refine Ab hf AB ?_;simp only[go_sem,Ba,Aw (show k<9223372036854775807 by omega)];exact Ai (jh (k+1) AA ⟨g',by grind⟩) rfl
   .rw[D4 g']at hl;clear jh;have qm:=Rt nm;have qp:=Ah9 bz bt body AA fun y hy=>Akx 1000000000 y (by grind[Jy]) (Am _)
    cases hn1:B3 nm
    .rw[hn1]at qm;obtain rfl:=qr (by grind);simp only[go_sem,k1,n3,Bj g'];refine Ab qm AB ?_;simp only[go_sem,Bc];exact Ae rfl rfl
    .rw[hn1]at qm;cases hb1:Lb body
     .rw[hb1]at qp;obtain rfl:=qr (by grind);simp only[go_sem,k1,n3,Bj g'];refine Ab qm AB ?_;simp only[go_sem,Ba,k1];refine Ab qp AB ?_;simp only[go_sem,Bc];exact Ae rfl rfl
     .rw[hb1]at qp;simp only[go_sem,k1,n3,Bj g'];refine Ab qm AB ?_;simp only[go_sem,Ba,k1];refine Ab qp AB ?_;simp only[go_sem,Ba,Aw (show i<9223372036854775807 by omega)];refine Ai (ih (i+1,s') AA ⟨by omega,k0,?_⟩) rfl
      grind
  .rw[D4 h']at hc;rw[hc]at hR;by_cases hn:thrs.length=0
   .obtain rfl:R=false:=by
     grind
    have f1:((0:Int)<(thrs.length:Int))=False:=eq_false AA;simp only[go_sem,hs,n2,Bj h',gt_iff_lt,f1];exact Ae rfl rfl
   .obtain rfl:R=true:=by
     grind
    have f1:((0:Int)<(thrs.length:Int))=True:=eq_true AA;simp only[go_sem,hs,n2,Bj h',gt_iff_lt,f1];exact Ae rfl rfl
def Bb2(n:Int):(Pt n).length<=24:=by
 have:=Wj n;unfold Pt
 split
 .simp
 .simp only[Be];omega
def Azn{d:Dp}(h1:d.nm.length<=12)(h2:d.on.length<=12):(F5 d).length<=80:=by
 have a1:=Bb2 d.init;have a2:=Wj d.size
 have a3:(if d.size=0 then [] else 91::(Cy d.size++[93])).length<=23:=by
  split
  .simp
  .simp;omega
 unfold F5
 split
 .simp only[Aj,Be,Dn];omega
 split
 .simp only[Aj,Be,Dn];omega
 split
 .simp only[Aj,Be,Dn];omega
 split
 .simp only[Aj,Be,Dn];omega
 split
 .simp only[Aj,Be,Dn];omega
 .simp only[Aj,Be,Dn];omega
def Ap3(a:List UInt8)(l:List (List UInt8)):(Fh (a::l)).length<=a.length+2+(Fh l).length:=by
 cases l with
 | nil=>simp[Fh]
 | cons b l=>simp only[Fh,Aj,Be];omega
theorem Pg{v:V}(h:v.rowB=true):v.cellB=true:=by cases v<;>simp[V.rowB]at h<;>rfl
def Ahr{v:V}(h:v.cellB=true):v.cells=[v]/\[v].all V.cellB=true:=⟨by cases v<;>simp[V.cellB]at h<;>rfl,by simp only[B5,Dc,h];rfl⟩
def Mq(s:List UInt8):List V:=[.str s]
def Awv{s s':St}{m m' e e' qB n:Nat}{u w:V}{ys:List (List V)}(he:e≠e')(hu:u=.nils\/∃ i g cs,u=.sl i g 0 n m true/\s[i]?=some (.row cs e g 0))(h:GW s m' e' qB w ys)(hf:∀ j,(∀ i g,u=.sl i g 0 n m true->j≠i)->j<s.length->s'[j]?=s[j]?):GW s' m' e' qB w ys:=by
 rcases h with h | ⟨hn,j,g,rfl,ho,qF⟩
 .exact .inl h
 .refine .inr ⟨hn,j,g,rfl,?_,qF⟩;rw[hf j ?_ (An.1 ho).1]
  .exact ho
  .rintro i g' rfl rfl;rcases hu with hu | ⟨i,g2,cs,hu,hs⟩
   .cases hu
   .cases hu;rw[hs]at ho;cases ho;exact he rfl
def Aww{s:St}{m e lo:Nat}{u:V}{xs:List (List V)}(h:GW s m e lo u xs):u=.nils\/∃ i g cs,u=.sl i g 0 xs.length m true/\s[i]?=some (.row cs e g 0):=by
 rcases h with⟨h,-⟩ | ⟨-,i,g,h,ho,-⟩
 .exact .inl h
 .exact .inr ⟨i,g,_,h,ho⟩
theorem Ug(z:Bool)(t:Nat)(xs:List (List V)):(SL z t xs).rowB=true:=by
 unfold SL
 split<;>rfl
def Ase(x:Tp):x.row.all V.rowB=true:=by
 unfold Tp.row;simp only[B5,Dc,Ug];rfl
def Acs(D:List Dp):∀ r∈D.map Dp.row,r.length=6:=by intro r hr;obtain⟨x,-,rfl⟩:=Di.1 hr;rfl
def Aib(D:List Dp):∀ r∈D.map Dp.row,r.all V.rowB=true:=by intro r hr;obtain⟨x,-,rfl⟩:=Di.1 hr;rfl
def Tt(D:List Tp):∀ r∈D.map Tp.row,r.length=4:=by intro r hr;obtain⟨x,-,rfl⟩:=Di.1 hr;rfl
def Acu(D:List Tp):∀ r∈D.map Tp.row,r.all V.rowB=true:=by intro r hr;obtain⟨x,-,rfl⟩:=Di.1 hr;exact Ase x
def Rc(C:Nat)(ts r:List Tk):Prop:=r <:+ ts/\r.length<=ts.length/\wt C r<=wt C ts
theorem Pm{C:Nat}{ts r:List Tk}(h:One C ts r):Rc C ts r:=⟨h.1,by have:=h.2.1;omega,by have:=h.2.2;omega⟩
theorem My{C:Nat}{a b c:List Tk}(h:Rc C a b)(h':Rc C b c):Rc C a c:=⟨h'.1.trans h.1,Dd h'.2.1 h.2.1,Dd h'.2.2 h.2.2⟩
theorem Asf{C:Nat}(a:List Tk):Rc C a a:=⟨List.suffix_refl _,Am _,Am _⟩
def Al0{s:List UInt8}{ts:List Tk}(C:Nat)(h:A0 s ts=true):Rc C ts ts.tail:=by
 obtain⟨h1,h2,h3⟩:=M5 (C:=C) h;exact⟨h1,by omega,by omega⟩
def A7g{C:Nat}{ts r:List Tk}{n:Int}(ht:D9 ts)(h:W3 ts=some (n,r)):(0<=n/\n<=9223372036854775807)/\Rc C ts r:=by
 unfold W3 at h
 split at h
 .rename_i hs;have u:=Al0 C hs
  split at h
  .cases h
  rename_i m q hq;obtain⟨n1,n2⟩:=Adf (C:=C) (Dq ht u.1) hq
  split at h
  .cases h
  simp only[Ci]at h;obtain⟨t3,h3,h⟩:=h;cases h;exact⟨n1,My (My u (Pm n2)) (Pm (Mi h3))⟩
 grind[Asf]
def Asg{C:Nat}{ts r:List Tk}{n:Int}(ht:D9 ts)(h:Sq ts=some (n,r)):(-9223372036854775808<n/\n<=9223372036854775807)/\Rc C ts r:=by
 unfold Sq at h
 split at h
 .rename_i hs;have u:=Al0 C hs
  split at h
  .rename_i qo;have u2:=Al0 C qo;simp only[Ci]at h;obtain⟨p,hp,h⟩:=h;obtain⟨m,q⟩:=p;cases h;obtain⟨n1,n2⟩:=Adf (C:=C) (Dq (Dq ht u.1) u2.1) hp
   grind[My,Pm]
  .obtain⟨n1,n2⟩:=Adf (C:=C) (Dq ht u.1) h
   grind[My,Pm]
 grind[Asf]
def DQ(C:Nat)(ts:List Tk)(d:Dp)(r:List Tk):Prop:=ShD d/\r <:+ ts/\r.length<ts.length/\(F5 d).length+2+wt C r<=wt C ts
def Afs{C:Nat}(hC:100<=C){t:Tk}{ts r:List Tk}{d:Dp}(h:ShD d)(hl:Rc C ts r):DQ C (t::ts) d r:=by
 have h1:=U2 h.nm
 have h2:d.on.length<=12:=by
  by_cases hk:d.kind=5
  .exact U2 (h.on.1 hk)
  .rw[h.on.2 hk];grind
 have h3:=Azn h1 h2;have h4:=Uf C t ts;exact⟨h,hl.1.trans (Tg t ts),by have:=hl.2.1;grind,by have:=hl.2.2;omega⟩
def An6{C:Nat}(hC:100<=C){ts r:List Tk}{d:Dp}(ht:D9 ts)(hd:Sf ts=true)(h:Uz ts=some (d,r)):DQ C ts d r:=by
 cases ts with
 | nil=>cases h
 | cons t ts=>
  have hk:1<=H6 t.text/\H6 t.text<=6:=by
   simp only[Sf,Al,bne_iff_ne]at hd;rcases Asd t.text with h | h
   .omega
   .exact h
  have qc:=Dq ht (Tg t ts);rw[Uz]at h;generalize H6 t.text=w at h hk
  split at h
  .cases h
  rename_i nm t1 hn;obtain⟨n1,n2⟩:=Ts (C:=C) qc hn;have n2:=Pm n2;have qb:=Dq qc n2.1
  split at h
  .split at h
   .cases h
   rename_i sz t2 hs;obtain⟨s1,s2⟩:=A7g (C:=C) qb hs
   split at h
   .cases h
   rename_i i t3 hi;obtain⟨i1,i2⟩:=Asg (C:=C) (Dq qb s2.1) hi;simp only[Ci]at h;obtain⟨t4,h4,h⟩:=h;cases h;exact Afs hC ⟨by simp,n1,by grind,⟨i1.1,i1.2,by simp⟩,by simp⟩ (My (My (My n2 s2) i2) (Pm (Mi h4)))
  split at h
  .split at h
   .cases h
   rename_i i t3 hi;obtain⟨i1,i2⟩:=Asg (C:=C) qb hi;simp only[Ci]at h;obtain⟨t4,h4,h⟩:=h;cases h;exact Afs hC ⟨by simp,n1,by simp,⟨i1.1,i1.2,by simp⟩,by simp⟩ (My (My n2 i2) (Pm (Mi h4)))
  split at h
  .split at h
   .cases h
   rename_i on t3 hi;obtain⟨i1,i2⟩:=Ts (C:=C) qb hi;simp only[Ci]at h;obtain⟨t4,h4,h⟩:=h;cases h;exact Afs hC ⟨by simp,n1,by simp,by simp,by grind⟩ (My (My n2 (Pm i2)) (Pm (Mi h4)))
  .rename_i q1 q2 q5;simp only[Ci]at h;obtain⟨t4,h4,h⟩:=h;cases h;exact Afs hC ⟨hk,n1,⟨by simp,by simp,fun _=>rfl⟩,⟨by simp,by simp,fun _ _=>rfl⟩,fun h=>absurd h q5,fun _=>rfl⟩ (My n2 (Pm (Mi h4)))
def Anw{C:Nat}(hC:100<=C):∀ (n:Nat) (ts:List Tk) (l:List Dp) (r:List Tk),D9 ts->M9 n ts=some (l,r)->(∀ d∈l,ShD d)/\r <:+ ts/\((l.map fun d=>F5 d++[59,10]).flatten).length+wt C r<=wt C ts
 | 0,ts,l,r,ht,h=>by cases h
 | n+1,ts,l,r,ht,h=>by
  rw[M9]at h
  split at h
  .rename_i hd
   split at h
   .cases h
   rename_i d q hq;obtain⟨d1,d2,d3,d4⟩:=An6 hC ht hd hq
   split at h
   .cases h
   rename_i l' q' qv;obtain⟨e1,e2,e3⟩:=Anw hC n _ _ _ (Dq ht d2) qv
   grind
  grind
def Aor{C:Nat}(hC:100<=C):∀ (n:Nat) (ts:List Tk) (l:List (List UInt8)) (r:List Tk),D9 ts->Nl n ts=some (l,r)->(∀ s∈l,B3 s=true)/\r <:+ ts/\r.length<ts.length/\(Fh l).length+wt C r<=wt C ts
 | 0,ts,l,r,ht,h=>by cases h
 | n+1,ts,l,r,ht,h=>by
  rw[Nl]at h
  split at h
  .cases h
  rename_i nm t1 hn;obtain⟨n1,n2,n3,n4⟩:=Ts (C:=C) ht hn;have n5:=U2 n1
  split at h
  .rename_i hs;obtain⟨u1,u2,u3⟩:=M5 (C:=C) hs
   split at h
   .cases h
   rename_i l' q hq;obtain⟨e1,e2,e3,e4⟩:=Aor hC n _ _ _ (Dq (Dq ht n2) u1) hq;cases h;have:=Ap3 nm l'
   grind
  .simp only[Ci]at h;obtain⟨t4,h4,h⟩:=h;cases h;obtain⟨d1,d2,d3⟩:=Mi (C:=C) h4
   grind[Fh]
def ThQ(M C:Nat)(ts:List Tk)(t:Tp)(r:List Tk):Prop:=B3 t.nm=true/\(∀ s∈t.locals,B3 s=true)/\(∀ s∈t.body,ShS s)/\r <:+ ts/\r.length<ts.length/\Sp.szs t.body<=ts.length/\(Fx t).length+wt C r<=wt C ts
def Aos{M C:Nat}(hC:100+8*M<=C){n:Nat}{ts r:List Tk}{t:Tp}(ht:D9 ts)(hM:ts.length<=M)(h:U9 n ts=some (t,r)):ThQ M C ts t r:=by
 cases ts with
 | nil=>cases h
 | cons t0 ts=>
  have hw:=Uf C t0 ts;have qa:=Tg t0 ts;have qc:=Dq ht qa;rw[Be]at hM;rw[U9]at h
  split at h
  .cases h
  rename_i nm t1 hn;obtain⟨n1,n2,n3,n4⟩:=Ts (C:=C) qc hn;have n5:=U2 n1;have qb:=Dq qc n2
  split at h
  .cases h
  rename_i t2 h2;obtain⟨c1,c2,c3⟩:=Mi (C:=C) h2;have qj:=Dq qb c1
  split at h
  .cases h
  rename_i l t3 hl
  have qu:(∀ s∈l,B3 s=true)/\t3 <:+ t2/\t3.length<=t2.length/\(Fh l).length+wt C t3<=wt C t2:=by
   unfold Alv at hl
   split at hl
   .grind[M5,Fh]
   .obtain⟨e1,e2,e3,e4⟩:=Aor (C:=C) AA n _ _ _ qj hl
    grind
  obtain⟨l1,l2,l3,l4⟩:=qu
  split at h
  .cases h
  rename_i b t4 hb;obtain⟨b1,b2,b3,b4,b5⟩:=(Adg hC n).2.1 _ _ _ (Dq qj l2) hb;cases h;have:=b5 1 AA;refine⟨n1,l1,b1,(((b2.trans l2).trans c1).trans n2).trans qa,by grind,by grind,?_⟩
  grind[Fx,List.length_cons]
def An7{M C:Nat}(hC:100+8*M<=C)(m:Nat):∀ (n:Nat) (ts:List Tk) (l:List Tp) (r:List Tk),D9 ts->ts.length<=M->Nf m n ts=some (l,r) ->
  (∀ t∈l,B3 t.nm=true)/\(∀ t∈l,∀ s∈t.locals,B3 s=true)/\(∀ t∈l,∀ s∈t.body,ShS s)/\(∀ t∈l,Sp.szs t.body<=M)/\((l.map Fx).flatten).length+wt C r<=wt C ts
 | 0,ts,l,r,ht,hM,h=>by cases h
 | n+1,ts,l,r,ht,hM,h=>by
  rw[Nf]at h
  split at h
  .split at h
   .cases h
   rename_i t q hq;obtain⟨d1,d2,d3,d4,d5,d6,d7⟩:=Aos hC ht hM hq
   split at h
   .cases h
   rename_i l' q' qv;obtain⟨e1,e2,e3,e4,e5⟩:=An7 hC m n _ _ _ (Dq ht d4) AA qv
   grind
  grind
def Wc:∀ (n:Nat) (ln:Int) (l:List UInt8) (ts:List Tk),Er n ln l=some ts->ts.length<=l.length
 | n,ln,[],ts,h=>by
  simp_all [Er]
 | 0,ln,c::r,ts,h=>by cases h
 | n+1,ln,c::r,ts,h=>by
  rw[Er]at h
  split at h
  .have:=Wc n _ _ _ h
   grind
  .split at h
   .have:=Wc n _ _ _ h
    grind
   .split at h
    .have h1:=Wc n _ _ _ h
     grind[Zj]
    .split at h
     .cases h
     .rename_i k w hf;simp only[Ci]at h;obtain⟨l,hl,rfl⟩:=h;obtain⟨h1,q,h2⟩:=Ach hf;have h3:=Wc n _ _ _ hl
      grind
def A0x{s:List UInt8}{p:Gp}(h:Ol s=some p):ShG p/\(Il p).length<=1000000000/\∀ t∈p.thrs,Sp.szs t.body<=4096:=by
 unfold Ol at h
 split at h
 .cases h
 rename_i hs
 split at h
 .cases h
 rename_i ts ht;have hl:=Wc _ _ _ _ ht;have qn:=Wk _ _ _ _ ht
 split at h
 rotate_left
 .cases h
 rename_i p' hp;cases h;unfold Aap at hp
 split at hp
 .cases hp
 rename_i ds r hd;obtain⟨d1,d2,d3⟩:=Anw (C:=100+8*4096) AA _ _ _ _ qn hd
 split at hp
 .cases hp
 rename_i l r2 qH;obtain⟨t1,t2,t3,t4,t5⟩:=An7 (M:=4096) (C:=100+8*4096) (Am _) _ _ _ _ _ (Dq qn d2) (by grind) qH
 split at hp
 .cases hp
 rename_i qP;cases hp;refine⟨⟨d1,t1,t2,t3,by grind⟩,?_,t4⟩
 grind[Il,wt]
/-! programs that are equal apart from lines have one text -/
def A7h:∀ {l l':List Xp},Uo l l'=true->F6 l=F6 l'
 | [],[],_=>rfl
 | x::l,y::l',h=>by
  simp only[Uo,Al]at h;simp only[F6,(Ah7 x y h.1).2.2]
 | [],_::_,h=>by cases h
 | _::_,[],h=>by cases h
mutual
theorem Bb3:∀ (s s':Sp),Alw s s'=true->∀ d,s.txt d=s'.txt d
 | ⟨op,line,nm,arg,iz,it,idx,ex,bz,bt,body,ez,et,els⟩,⟨op',line',nm',arg',iz',it',idx',ex',bz',bt',body',ez',et',els'⟩,h,d=>by
  simp only[Alw,Al,beq_iff_eq]at h;obtain⟨rfl,rfl,rfl,hx,hi,hb,he⟩:=h;have h1:=(Ah7 ex ex' hx).2.2;have h2:=A7h hi;have h3:=Ai1 body body' hb (d+1);have h4:=Ai1 els els' he (d+1)
  simp_all [M3,Cu]
theorem Ai1:∀ (l l':List Sp),Z6 l l'=true->∀ d,Sp.txts d l=Sp.txts d l'/\l.isEmpty=l'.isEmpty
 | [],[],_,d=>⟨rfl,rfl⟩
 | x::l,y::l',h,d=>by
  simp only[Z6,Al]at h;rw[N2,N2,Bb3 x y h.1 d,(Ai1 l l' h.2 d).1]
  grind
 | [],_::_,h,_=>by cases h
 | _::_,[],h,_=>by cases h
end
section
variable {κ:Type} [DecidableEq κ]
def Lr:List κ->κ->Option Nat
 | [],_=>none
 | x::l,k=>if x=k then some 0 else(Lr l k).map (·+1)
theorem Vt:∀ {l:List κ} {k:κ} {s:Nat},Lr l k=some s↔l[s]?=some k/\∀ j,j<s->l[j]?≠some k
 | [],k,s=>by simp[Lr]
 | x::l,k,s=>by
  rw[Lr];by_cases h:x=k
  .rw[if_pos h];constructor
   .grind
   .rintro⟨-,h2⟩
    cases s with
    | zero=>rfl
    | succ s=>exact absurd (by simp[h]) (h2 0 (Nat.succ_pos s))
  .rw[if_neg h]
   cases s with
   | zero=>
    simp_all
   | succ s=>
    constructor
    .intro e
     have e2:Lr l k=some s:=by
      cases hs:Lr l k with
      | none=>grind
      | some a=>grind
     obtain⟨h1,h2⟩:=Vt.1 e2
     grind
    .rintro⟨h1,h2⟩;have:Lr l k=some s:=Vt.2 ⟨by grind,fun j hj=>by grind⟩
     grind
theorem A11{l:List κ}{k:κ}:Lr l k=none↔∀ j:Nat,l[j]?≠some k:=by
 constructor
 .intro h j hj
  induction l generalizing j with
  | nil=>grind
  | cons x l ih=>
   rw[Lr]at h
   split at h
   .cases h
   .rename_i hx
    cases j with
    | zero=>grind
    | succ j=>simp_all
 .intro h
  cases hs:Lr l k with
  | none=>rfl
  | some s=>grind[Vt]
end
section
variable {κ:Type} [DecidableEq κ]
def Gk(ks:List κ)(m:List Int)(k:κ):Option Nat:=match Lr ks k with
 | some s=>if m.getD s (-1)<0 then none else some (m.getD s (-1)).toNat
 | none=>none
def Ft(ks:List κ)(m:List Int):List κ->Option (List Nat)
 | []=>some []
 | k::l=>match Gk ks m k with
  | some n=>(Ft ks m l).map (n::·)
  | none=>none
def Aca{ks:List κ}{m:List Int}:∀ {l:List κ},Ft ks m l=none↔∃ k∈l,Gk ks m k=none
 | []=>by simp[Ft]
 | k::l=>by
  rw[Ft]
  cases h:Gk ks m k with
  | none=>simp[h]
  | some n=>
   simp only[B7];constructor
   .intro e;have:Ft ks m l=none:=by simpa using e
    obtain⟨k',h1,h2⟩:=Aca.1 this
    grind
   .rintro⟨k',h1 | h1,h2⟩
    .grind
    .have:=Aca.2 ⟨k',h1,h2⟩
     grind
theorem Vu{ks:List κ}{m:List Int}:∀ {l:List κ} {r:List Nat},Ft ks m l=some r->r.length=l.length
 | [],r,h=>by grind[Ft]
 | k::l,r,h=>by
  rw[Ft]at h
  cases h1:Gk ks m k with
  | none=>grind
  | some n=>
   rw[h1]at h
   cases h2:Ft ks m l with
   | none=>grind
   | some r'=>
    rw[h2]at h;simp at h;rw[<-h,Be,Be,Vu h2]
end
def Ash(x:Ent)(m:Nat)(i:V):Lx m x.sl i=(Js (x.sites.map Bl) i).bind fun r=>if r.length=m then some (.imm r 0) else none:=Aed ..
def Aas(l:List UInt8):Bool:=decide (1<=l.length)&&decide (l.length<=1000)&&l.all fun c=>decide (32<=c.toNat)&&decide (c.toNat<=126)
def Eb(k:Bp):Bool:=B3 k.1&&Aas k.2.1&&decide (0<=k.2.2)&&decide (k.2.2<60)
def Hc(k:Int)(n:Nat):Bool:=((k==1||k==3)&&n==2)||(k==2&&decide (2<=n)&&decide (n<=4))||(k==4&&n==4)
def P4(e:Ent):Bool:=decide (1<=e.seen)&&decide (e.seen<=1073741824)&&decide (0<=e.missed)&&decide (e.missed<=7)
def Da(e:Ent):Bool:=Hc e.kind e.sites.length&&e.sites.all Eb&&P4 e
def Hu(l:List Ent)(i:Nat):Bool:=match l[i]? with
 | some x=>Da x&&(match i with
  | 0=>true
  | j+1=>match l[j]? with
   | some p=>decide (Bs p x<0)
   | none=>false)
 | none=>false
def Qw(l:List Ent):Bool:=(List.range l.length).all (Hu l)
def Hr(n:Int)(l:List Ent):Bool:=decide (0<=n)&&decide (n<=1073741824)&&decide (l.length<=64)&&Qw l
theorem A7i{l:List Ent}{i:Nat}(hi:i<l.length)(h:Hu l i=false):Qw l=false:=by
 unfold Qw
 grind
theorem Asi{l:List Ent}(h:∀ i,i<l.length->Hu l i=true):Qw l=true:=by
 grind[Qw]
def Aot{l:List Ent}:Qw l=true↔∀ i,i<l.length->Hu l i=true:=⟨fun h i hi=>by
 grind[Qw],Asi⟩
def A7j{l:List Ent}{i:Nat}{x:Ent}(hx:l[i]?=some x)(h:Hu l i=true):Da x=true:=by
 simp_all [Hu]
def Bb4{l:List Ent}{i:Nat}{p x:Ent}(hp:l[i]?=some p)(hx:l[i+1]?=some x)(h:Hu l (i+1)=true):Bs p x<0:=by
 simp_all [Hu]
def Bg1{l:List Ent}(h:∀ i p x,l[i]?=some p->l[i+1]?=some x->Bs p x<0):Asc l:=by
 unfold Asc;rw[Xw];intro i j hi hj qL
 induction j with
 | zero=>omega
 | succ j ih=>
  have h1:Bs l[j] l[j+1]<0:=h j l[j] l[j+1] (Cb AA) (Cb hj);by_cases qC:i=j
  .grind
  .exact lin_p.trans l[i].ks l[j].ks l[j+1].ks (ih AA AA) h1
def A12{l:List Ent}(h:Qw l=true):Asc l:=
 Bg1 fun i p x hp hx=>Bb4 hp hx (Aot.1 h (i+1) (An.1 hx).1)
def A13{l:List Ent}(h:Qw l=true):∀ x∈l,Da x=true:=fun x hx=>by
 obtain⟨i,hi,rfl⟩:=Mu hx;exact A7j (Cb hi) (Aot.1 h i hi)
def Qo{k:Int}{n:Nat}(h:Hc k n=true):n<=4/\2<=n:=by
 unfold Hc at h
 grind
def Aur{k:Bp}(h:B3 k.1=false):Eb k=false:=by grind[Eb]
theorem Aus{k:Bp}(h:k.2.1.length<1):Eb k=false:=by grind[Eb,Aas]
theorem Aut{k:Bp}(h:1000<k.2.1.length):Eb k=false:=by grind[Eb,Aas]
theorem Auu{k:Bp}(h:k.2.2<0):Eb k=false:=by grind[Eb]
theorem Auv{k:Bp}(h:60<=k.2.2):Eb k=false:=by grind[Eb]
theorem Ad0{k:Bp}{i:Nat}{c:UInt8}(hc:k.2.1[i]?=some c)(h:c.toNat<32\/126<c.toNat):Eb k=false:=by
 unfold Eb Aas
 grind
def Auw{k:Bp}(h1:B3 k.1=true)(h2:1<=k.2.1.length)(h3:k.2.1.length<=1000)(h4:0<=k.2.2)(h5:k.2.2<60)(h6:∀ (i:Nat) (c:UInt8),k.2.1[i]?=some c->32<=c.toNat/\c.toNat<=126):Eb k=true:=by
 unfold Eb Aas
 have:(k.2.1.all fun c=>decide (32<=c.toNat)&&decide (c.toNat<=126))=true:=by
  rw[Cc];intro c hc;obtain⟨i,hi,rfl⟩:=Mu hc;have:=h6 i _ (Cb hi);simp only[Al,decide_eq_true_eq];exact this
 grind
def Bb5(k:Bp):Fn TT PT 78 [.agg (Bl k)] (.bool (Eb k)):=by
 refine Bg T78 rfl ?_;unfold Bl;simp only[go_sem];refine Fu P125 rfl AH ?_;cases h0:B3 k.1
 .simp only[go_sem];exact Ae rfl (by rw[Aur h0])
 cases h1:decide ((k.2.1.length:Int)<1);rotate_left
 .simp only[go_sem,h1];exact Ae rfl (by grind[Aus])
 cases h2:decide ((1000:Int)<(k.2.1.length:Int));rotate_left
 .simp only[go_sem,h1,h2];exact Ae rfl (by grind[Aut])
 cases h3:decide (k.2.2<0);rotate_left
 .simp only[go_sem,h1,h2,h3];exact Ae rfl (by grind[Auu])
 cases h4:decide (60<=k.2.2);rotate_left
 .simp only[go_sem,h1,h2,h3,h4];exact Ae rfl (by grind[Auv])
 simp only[go_sem,h1,h2,h3,h4];simp at h1 h2 h3 h4;refine Bb (fun i=>k.2.1.length - i) (fun i:Nat=>[(1,.ptr 0 0 0),(32,iV k.2.1.length),(33,iV i)]) (fun _=>[.row (kR k) 57 0 0]) (fun i=>i<=k.2.1.length/\∀ (j:Nat) (c:UInt8),j<i->k.2.1[j]?=some c->32<=c.toNat/\c.toNat<=126) ?_ 0 ⟨by omega,fun j c hj=>by omega⟩;rintro i ⟨hi,qh⟩ ih;refine Ay Blq ?_;rcases Az i k.2.1.length with h | h
 .obtain⟨c,hc,-,-⟩:=Bk h;cases h5:decide (((c.toNat:Nat):Int)<32);rotate_left
  .simp only[go_sem,Aq h,hc,h5];exact Ae rfl (by grind[Ad0])
  cases h6:decide ((126:Int)<((c.toNat:Nat):Int));rotate_left
  .simp only[go_sem,Aq h,hc,h5,h6];exact Ae rfl (by grind[Ad0])
  simp only[go_sem,Aq h,hc,h5,h6,Aw (show i<9223372036854775807 by omega)];simp at h5 h6;refine Ai (ih (i+1) AA ⟨by omega,fun j c' hj qt=>?_⟩) rfl;by_cases e:j=i
  .grind
  .exact qh j c' AA qt
 .simp only[go_sem,Bj h];refine Ae rfl ?_;rw[Auw h0 AA AA h3 h4 fun i' c hc=>qh i' c (by grind) hc]
def A7k(k:Bp):Fn TT PT 52 [.agg (Bl k)] (.bool (Eb k)):=by
 have hn:=Rt k.1;refine Bg T52 rfl ?_;unfold Bl;simp only[go_sem];refine Ab hn rfl ?_;cases h0:B3 k.1
 .simp only[go_sem];exact Ae rfl (by rw[Aur h0])
 cases h1:decide ((k.2.1.length:Int)<1);rotate_left
 .simp only[go_sem,h1];exact Ae rfl (by grind[Aus])
 cases h2:decide ((1000:Int)<(k.2.1.length:Int));rotate_left
 .simp only[go_sem,h1,h2];exact Ae rfl (by grind[Aut])
 cases h3:decide (k.2.2<0);rotate_left
 .simp only[go_sem,h1,h2,h3];exact Ae rfl (by grind[Auu])
 cases h4:decide (60<=k.2.2);rotate_left
 .simp only[go_sem,h1,h2,h3,h4];exact Ae rfl (by grind[Auv])
 simp only[go_sem,h1,h2,h3,h4];simp at h1 h2 h3 h4;refine Bb (fun i=>k.2.1.length - i) (fun i:Nat=>[(1,.ptr 0 0 0),(3,iV i)]) (fun _=>[.row (kR k) 57 0 0]) (fun i=>i<=k.2.1.length/\∀ (j:Nat) (c:UInt8),j<i->k.2.1[j]?=some c->32<=c.toNat/\c.toNat<=126) ?_ 0 ⟨by omega,fun j c hj=>by omega⟩;rintro i ⟨hi,qh⟩ ih;refine Ay Bk6 ?_;rcases Az i k.2.1.length with h | h
 .obtain⟨c,hc,-,-⟩:=Bk h;cases h5:decide (((c.toNat:Nat):Int)<32);rotate_left
  .simp only[go_sem,Aq h,hc,h5];exact Ae rfl (by grind[Ad0])
  cases h6:decide ((126:Int)<((c.toNat:Nat):Int));rotate_left
  .simp only[go_sem,Aq h,hc,h5,h6];exact Ae rfl (by grind[Ad0])
  simp only[go_sem,Aq h,hc,h5,h6,Aw (show i<9223372036854775807 by omega)];simp at h5 h6;refine Ai (ih (i+1) AA ⟨by omega,fun j c' hj qt=>?_⟩) rfl;by_cases e:j=i
  .grind
  .exact qh j c' AA qt
 .simp only[go_sem,Bj h];refine Ae rfl ?_;rw[Auw h0 AA AA h3 h4 fun i' c hc=>qh i' c (by grind) hc]
/-! entries -/
theorem Hp{x:Ent}(h:Hc x.kind x.sites.length=false):Da x=false:=by grind[Da]
theorem Bb6{x:Ent}{i:Nat}{k:Bp}(hk:x.sites[i]?=some k)(h:Eb k=false):Da x=false:=by
 unfold Da
 grind
def Bg2{x:Ent}(h1:Hc x.kind x.sites.length=true)(h2:∀ (i:Nat) (k:Bp),x.sites[i]?=some k->Eb k=true):Da x=P4 x:=by
 unfold Da
 have:x.sites.all Eb=true:=by
  rw[Cc];intro c hc;obtain⟨i,hi,rfl⟩:=Mu hc;exact h2 i _ (Cb hi)
 grind
theorem Na{x:Ent}(h:x.seen<1\/1073741824<x.seen\/x.missed<0\/7<x.missed):P4 x=false:=by
 unfold P4
 grind
theorem Ajw{x:Ent}(h1:1<=x.seen)(h2:x.seen<=1073741824)(h3:0<=x.missed)(h4:x.missed<=7):P4 x=true:=by
 grind[P4]
theorem Hs{k:Int}{n:Nat}(h:¬ (((k=1\/k=3)/\n=2)\/(k=2/\2<=n/\n<=4)\/(k=4/\n=4))):Hc k n=false:=by
 simp_all [Hc]
def Nb{k:Int}{n:Nat}(h:((k=1\/k=3)/\n=2)\/(k=2/\2<=n/\n<=4)\/(k=4/\n=4)):Hc k n=true:=by
 unfold Hc
 grind
def Bg3{T:Nat->Option AF}{pr:Nat->Option (List V->Option V)}{a b:It}{c c':AC}{e:Env}{σ:St}{Q:Env->St->Prop}(hc:c=c')(h:W T pr [a,b,.c c'] e σ Q):W T pr [a,b,.c c] e σ Q:=hc ▸ h
noncomputable def last46:AC:=match b45.body with
 | .seq _ (.seq _ (.seq _ (.seq _ (.seq _ c))))=>c
 | c=>c
def Acb(x:Ent)(hk:Hc x.kind x.sites.length=true):W TT PT [.l [1,29,30,31] lp45_0,.b 1,.c last46] [(1,.ptr 0 0 0),(29,x.sl),(30,iV x.sites.length),(31,iV 0)]
  [eO x x.sl] (FQ [AR.tmp 2] (.bool (Da x))):=by
 have qO:=Qo hk;refine Bg3 (c:=last46) (by delta last46 b45 tX;exact rfl) ?_
 refine Bb (α:=Nat × St) (fun a=>x.sites.length - a.1) (fun a=>[(1,.ptr 0 0 0),(29,x.sl),(30,iV x.sites.length),(31,iV a.1)]) (fun a=>eO x x.sl::a.2)
  (fun a=>a.1<=x.sites.length/\∀ (j:Nat) (k:Bp),j<a.1->x.sites[j]?=some k->Eb k=true) ?_ (0,[]) ⟨by simp,fun j k hj=>by omega⟩
 rintro⟨i,s⟩ ⟨hi,qh⟩ ih;simp only at hi qh ih;refine Ay Bk3 ?_;rcases Az i x.sites.length with h | h
 .obtain⟨k,hx,-,-⟩:=Bk h;have hv:=Bb5 k;simp only[Bl]at hv;simp only[go_sem,Aq h,Ash,Ak,hx,Bl];refine Ab hv rfl ?_;cases hb:Eb k
  .simp only[go_sem];exact Ae rfl (by grind[Bb6])
  .simp only[go_sem,Aw (show i<9223372036854775807 by omega)];refine Ai (ih (i+1,_) AA ⟨by omega,fun j k' hj qM=>?_⟩) rfl
   grind
 .have qs:Da x=P4 x:=Bg2 hk fun j k hj=>qh j k (by grind) hj
  rw[qs];cases m1:decide (1<=x.seen)
  .simp only[go_sem,Bj h,m1];exact Ae rfl (by grind[Na])
  cases m2:decide (x.seen<=1073741824)
  .simp only[go_sem,Bj h,m1,m2];exact Ae rfl (by grind[Na])
  cases m3:decide (0<=x.missed)
  .simp only[go_sem,Bj h,m1,m2,m3];exact Ae rfl (by grind[Na])
  cases m4:decide (x.missed<=7)
  .simp only[go_sem,Bj h,m1,m2,m3,m4];exact Ae rfl (by grind[Na])
  simp only[go_sem,Bj h,m1,m2,m3,m4];simp at m1 m2 m3 m4;exact Ae rfl (by grind[Ajw])
def A31(x:Ent):Fn TT PT 45 [.agg x.row] (.bool (Da x)):=by
 refine Bg T45 rfl ?_;unfold Ent.row;cases k1:(x.kind==1)
 .cases k3:(x.kind==3)
  .cases k2:(x.kind==2)
   .cases k4:(x.kind==4)
    .simp only[go_sem,k1,k2,k3,k4];exact Ae rfl (by grind[Hp,Hs])
    .cases n1:decide ((x.sites.length:Int)<4);rotate_left
     .simp only[go_sem,k1,k2,k3,k4,n1];exact Ae rfl (by grind[Hp,Hs])
     cases n2:decide ((4:Int)<(x.sites.length:Int));rotate_left
     .simp only[go_sem,k1,k2,k3,k4,n1,n2];exact Ae rfl (by grind[Hp,Hs])
     simp only[go_sem,k1,k2,k3,k4,n1,n2];exact Acb x (Nb (by grind))
   .cases n1:decide ((x.sites.length:Int)<2);rotate_left
    .simp only[go_sem,k1,k2,k3,n1];exact Ae rfl (by grind[Hp,Hs])
    cases n2:decide ((4:Int)<(x.sites.length:Int));rotate_left
    .simp only[go_sem,k1,k2,k3,n1,n2];exact Ae rfl (by grind[Hp,Hs])
    simp only[go_sem,k1,k2,k3,n1,n2];exact Acb x (Nb (by grind))
  .cases n1:decide ((x.sites.length:Int)<2);rotate_left
   .simp only[go_sem,k1,k3,n1];exact Ae rfl (by grind[Hp,Hs])
   cases n2:decide ((2:Int)<(x.sites.length:Int));rotate_left
   .simp only[go_sem,k1,k3,n1,n2];exact Ae rfl (by grind[Hp,Hs])
   simp only[go_sem,k1,k3,n1,n2];exact Acb x (Nb (by grind))
 .cases n1:decide ((x.sites.length:Int)<2);rotate_left
  .simp only[go_sem,k1,n1];exact Ae rfl (by grind[Hp,Hs])
  cases n2:decide ((2:Int)<(x.sites.length:Int));rotate_left
  .simp only[go_sem,k1,n1,n2];exact Ae rfl (by grind[Hp,Hs])
  simp only[go_sem,k1,n1,n2];exact Acb x (Nb (by grind))
