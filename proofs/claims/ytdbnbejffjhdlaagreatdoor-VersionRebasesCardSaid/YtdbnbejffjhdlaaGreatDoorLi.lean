/- Plain: what is parsed is shaped and not much longer than its tokens. -/
import Derived.Test.YtdbnbejffjhdlaaGreatDoorGg
set_option linter.all false
namespace Go.Proofs.YtdbnbejffjhdlaaGreatDoor.KM
open Go
theorem Afa{p:UInt8->Bool}:∀ {l:List UInt8} {x:UInt8},x∈l.takeWhile p->p x=true
 | [],x,h=>by cases h
 | c::l,x,h=>by
  rw[Ab7]at h
  split at h
  .rename_i hc;rcases Bo.1 h with rfl | h
   .exact hc
   .exact Afa h
  grind
def D6(ts:List Tk):Prop:=∀ t∈ts,(t.kind=1->B0 t.text=true)/\(t.kind=2->0<=K1 t.text/\K1 t.text<=9223372036854775807)
theorem Dr{a b:List Tk}(h:D6 b)(hs:a <:+ b):D6 a:=fun t ht=>h t (hs.subset ht)
def wt(C:Nat)(ts:List Tk):Nat:=C*ts.length
def Uy(C:Nat)(t:Tk)(ts:List Tk):wt C (t::ts)=C+wt C ts:=by grind[wt]
theorem Ng{s:List UInt8}{ts:List Tk}{C:Nat}(h:A1 s ts=true):ts.tail <:+ ts/\ts.tail.length+1=ts.length/\wt C ts=C+wt C ts.tail:=by
 cases ts with
 | nil=>cases h
 | cons t r=>exact⟨Tz t r,rfl,Uy C t r⟩
def Bca{qn:Nat}{ts:List Tk}{C:Nat}(h:I6 qn ts≠0):ts.tail <:+ ts/\ts.tail.length+1=ts.length/\wt C ts=C+wt C ts.tail:=by
 cases ts with
 | nil=>exact absurd rfl h
 | cons t r=>exact⟨Tz t r,rfl,Uy C t r⟩
theorem Vh{l:List UInt8}(h:B0 l=true):l.length<=12:=by
 obtain⟨c,cs,rfl,-,-,h,-⟩:=A7l h;exact h
theorem A4b{op:Int}(h:6<=op/\op<=18)(x y:Xp):(Mx op x y).txt.length<=x.txt.length+y.txt.length+8:=by
 unfold Mx;rw[Bb7 h];have h1:=(Oq (x.op,x.txt) (Ii op)).2;have h2:=(Oq (y.op,y.txt) (Bu op+1)).2
 grind[Au5]
def A7n{op:Int}(h:op=4\/op=5)(x:Xp):(Rq op x).txt.length<=x.txt.length+4:=by
 unfold Rq;rw[(Bg8 h).1];have h1:=(Oq (x.op,x.txt) 6).2
 grind[Au5]
def XQ(C:Nat)(ts:List Tk)(x:Xp)(r:List Tk):Prop:=ShE x/\r <:+ ts/\r.length<ts.length/\x.txt.length+wt C r<=wt C ts
def Ws{C:Nat}(hC:25<=C):∀ n,(∀ qn ts x r,D6 ts->pe n qn ts=some (x,r)->XQ C ts x r) /\
  (∀ qn x0 ts x r,D6 ts->ShE x0->lp n qn x0 ts=some (x,r)->ShE x/\r <:+ ts/\r.length<=ts.length/\x.txt.length+wt C r<=x0.txt.length+wt C ts) /\
  (∀ ts x r,D6 ts->pu n ts=some (x,r)->XQ C ts x r)/\(∀ ts x r,D6 ts->pp n ts=some (x,r)->XQ C ts x r)
 | 0=>⟨fun _ _ _ _ _ h=>by grind[pe],fun _ _ _ _ _ _ _ h=>by grind[lp],fun _ _ _ _ h=>by grind[pu],fun _ _ _ _ h=>by grind[pp]⟩
 | n+1=>by
  obtain⟨qx,qy,qI,jG⟩:=Ws hC n;refine⟨fun qn ts x r ht h=>?_,fun qn x0 ts x r ht h0 h=>?_,fun ts x r ht h=>?_,fun ts x r ht h=>?_⟩
  .rw[pe]at h
   split at h
   .grind
   .split at h
    .cases h
    .rename_i y q hy;obtain⟨a1,a2,a3,a4⟩:=qx _ _ _ _ ht hy;obtain⟨b1,b2,b3,b4⟩:=qy _ _ _ _ _ (Dr ht a2) a1 h;exact⟨b1,b2.trans a2,by omega,by omega⟩
  .rw[lp]at h
   split at h
   .grind
   .rename_i ho;obtain⟨t1,t2,t3⟩:=Bca (C:=C) ho;obtain⟨o1,-,-⟩:=A7m ho
    split at h
    .cases h
    .rename_i y q hy;obtain⟨a1,a2,a3,a4⟩:=qx _ _ _ _ (Dr ht t1) hy;have hs:ShE (Mx (I6 qn ts) x0 y):=.bin o1 h0 a1
     grind[A4b,Dr]
  .have un:∀ (op:Int),op=4\/op=5->∀ s,A1 s ts=true->(match pu n ts.tail with
     | none=>none
     | some (x,r)=>some (Rq op x,r))=some (x,r)->XQ C ts x r:=fun op ho s hs h=>by
    obtain⟨t1,t2,t3⟩:=Ng (C:=C) hs
    split at h
    .cases h
    .rename_i y q hy;cases h;obtain⟨a1,a2,a3,a4⟩:=qI _ _ _ (Dr ht t1) hy;have:=A7n ho y;exact⟨.un ho a1,a2.trans t1,by omega,by omega⟩
   rw[pu]at h
   split at h
   .rename_i hs;exact un 4 (.inl rfl) _ hs h
   .split at h
    .rename_i hs;exact un 5 (.inr rfl) _ hs h
    grind
  .cases ts with
   | nil=>grind[pp]
   | cons t ts=>
    have hw:=Uy C t ts;have qb:=Tz t ts;have qf:=Dr ht qb;obtain⟨k1,k2⟩:=ht t Cr;rw[pp]at h
    split at h
    .rename_i hk;cases h;refine⟨.num (k2 hk),qb,by simp,?_⟩;have:=W2 (K1 t.text);rw[F3];simp only[Eh,if_true];omega
    .split at h
     .rename_i hk;have hn:=k1 hk;have jB:=Vh hn
      split at h
      .rename_i hs;obtain⟨t1,t2,t3⟩:=Ng (C:=C) hs
       split at h
       .cases h
       .rename_i y q hy;obtain⟨a1,a2,a3,a4⟩:=qx _ _ _ _ (Dr qf t1) hy
        split at h
        .rename_i qD;obtain⟨u1,u2,u3⟩:=Ng (C:=C) qD;cases h;refine⟨.idx hn a1,((u1.trans a2).trans t1).trans qb,by grind,?_⟩
         grind[F3,Eh]
        grind
      .cases h;refine⟨.name hn,qb,by simp,?_⟩;rw[F3];simp only[Eh,show((2:Int)=1)=False from eq_false AA,if_false,if_true];omega
     .split at h
      .split at h
       .cases h
       .rename_i y q hy;obtain⟨a1,a2,a3,a4⟩:=qx _ _ _ _ qf hy
        split at h
        .rename_i qD;obtain⟨u1,u2,u3⟩:=Ng (C:=C) qD;cases h;exact⟨a1,(u1.trans a2).trans qb,by grind,by omega⟩
        grind
      grind
/-! scanning gives right tokens -/
def W3:∀ (n:Nat) (ln:Int) (l:List UInt8) (ts:List Tk),En n ln l=some ts->D6 ts
 | n,ln,[],ts,h=>by
  have:En n ln []=some []:=by cases n<;>rfl
  rw[this]at h;cases h;intro t ht;cases ht
 | 0,ln,c::r,ts,h=>by cases h
 | n+1,ln,c::r,ts,h=>by
  rw[En]at h
  split at h
  .exact W3 n _ _ _ h
  .split at h
   .exact W3 n _ _ _ h
   .split at h
    .exact W3 n _ _ _ h
    .split at h
     .cases h
     .rename_i k w hf;simp only[Cg]at h;obtain⟨l,hl,rfl⟩:=h;intro t ht;rcases Bo.1 ht with rfl | ht
      .rw[Wk]at hf;simp only
       split at hf
       .rename_i hc
        split at hf
        .cases hf
        .rename_i qj;cases hf;refine⟨fun hk=>?_,fun hk=>?_⟩
         .split at hk
          .cases hk
          .rename_i jx;refine Ak0 (by simp[E7]) AA (by grind) fun j hj=>?_
           have qh:∀ d∈E7 c r,O7 d=true:=fun d hd=>by
            rcases Bo.1 hd with rfl | hd
            .grind[Bb6]
            grind[Afa]
           cases j with
           | zero=>
            have h1:Md c.toNat=true:=hc
            grind[Jx,E7]
           | succ j=>
            have hm:((E7 c r).getD (j+1) 0)∈E7 c r:=by rw[E0,Cd hj];exact N9 _
            have hi:=qh _ hm;unfold O7 Nx at hi;unfold Jx
            grind
         omega
       .split at hf
        .rename_i hc
         split at hf
         .cases hf
         .split at hf
          .rename_i qC;cases hf;refine⟨(fun hk=>by cases hk),fun _=>?_⟩
           have hd:Lj (Ew c r):=fun d hd=>by
            rcases Bo.1 hd with rfl | hd
            .exact hc
            grind[Afa]
           rw[Aqh hd]at qC;have hv:=of_decide_eq_true qC
           grind[Asl,Ew]
          grind
        grind
      .exact W3 n _ _ _ hl t ht
/-! statements -/
def One(C:Nat)(ts r:List Tk):Prop:=r <:+ ts/\r.length+1=ts.length/\wt C ts=C+wt C r
def Asm(C:Nat)(t:Tk)(r:List Tk):One C (t::r) r:=⟨Tz t r,rfl,Uy C t r⟩
def Uj{C:Nat}{ts r:List Tk}{nm:List UInt8}(ht:D6 ts)(h:Dh ts=some (nm,r)):B0 nm=true/\One C ts r:=by
 cases ts with
 | nil=>cases h
 | cons t ts=>
  unfold Dh at h;simp only at h
  split at h
  .rename_i hk;cases h;exact⟨(ht t Cr).1 hk,Asm C t _⟩
  grind
def Mm{C:Nat}{s:List UInt8}{ts r:List Tk}(h:Eb s ts=some r):One C ts r:=by
 unfold Eb at h
 split at h
 .rename_i hs;cases h;obtain⟨h1,h2,h3⟩:=Ng (C:=C) hs;exact⟨h1,h2,h3⟩
 grind
def Adp{C:Nat}{ts r:List Tk}{n:Int}(ht:D6 ts)(h:Ic ts=some (n,r)):(0<=n/\n<=9223372036854775807)/\One C ts r:=by
 cases ts with
 | nil=>cases h
 | cons t ts=>
  unfold Ic at h;simp only at h
  split at h
  .rename_i hk;cases h;exact⟨(ht t Cr).2 hk,Asm C t _⟩
  grind
def Ah6:∀ {l:List (List UInt8 × Int)} {s:List UInt8} {v:Int},l.lookup s=some v->∃ a,(a,v)∈l
 | [],_,_,h=>by cases h
 | (a,w)::l,s,v,h=>by
  rw[Ahj]at h
  split at h
  .grind
  .obtain⟨b,hb⟩:=Ah6 h;grind
def Asn(s:List UInt8):Eo s=0\/(2<=Eo s/\Eo s<=15):=by
 unfold Eo
 cases h:wordTab.lookup s with
 | none=>grind
 | some v=>
  obtain⟨a,ha⟩:=Ah6 h;have:(wordTab.all fun p=>decide (2<=p.2/\p.2<=15))=true:=by decide
  grind
def Aso(s:List UInt8):H9 s=0\/(1<=H9 s/\H9 s<=6):=by
 unfold H9
 cases h:declTab.lookup s with
 | none=>grind
 | some v=>
  obtain⟨a,ha⟩:=Ah6 h;have:(declTab.all fun p=>decide (1<=p.2/\p.2<=6))=true:=by decide
  grind
def Ns(s:Sp):Nat:=if Fg s.op then s.ex.txt.length else 0
def Bcb(op:Int):(C7 op).length<=11:=by
 unfold C7
 split<;>simp
def Bcc(s:Sp):(Ct s).length<=20+s.nm.length+s.arg.length+(Gi s.idx).length+Ns s:=by
 have hw:=Bcb s.op;unfold Ct Ns Fg
 grind
def Bha(d:Nat)(s:Sp):(s.txt d).length<=6*d+40+s.nm.length+s.arg.length+(Gi s.idx).length+Ns s+(if B3 s.op then(Sp.txts (d+1) s.body).length+(Sp.txts (d+1) s.els).length else 0):=by
 have hh:=Bcc s;rw[Nd]
 have h5:(if s.els.isEmpty=true then [] else Ep d++125::32::101::108::115::101::32::123::10::Sp.txts (d+1) s.els).length<=2*d+9+(Sp.txts (d+1) s.els).length:=by
  split
  .simp
  .simp[K9];omega
 cases B3 s.op
 .simp only[Aq,K9,Hj,if_false,Bg,Dq];omega
 .simp only[Aq,K9,if_true,Bg,Dq];omega
def SQ(M C:Nat)(ts:List Tk)(s:Sp)(r:List Tk):Prop:=ShS s/\r <:+ ts/\r.length<ts.length/\s.sz+r.length<=ts.length/\∀ d,d+ts.length<=M->(s.txt d).length+wt C r<=wt C ts
def LQ(M C:Nat)(ts:List Tk)(l:List Sp)(r:List Tk):Prop:=(∀ s∈l,ShS s)/\r <:+ ts/\r.length<ts.length/\Sp.szs l+r.length<ts.length/\∀ d,d+ts.length<=M->(Sp.txts d l).length+wt C r<=wt C ts
def Tb{M C:Nat}(hC:100+8*M<=C){ts r:List Tk}{s:Sp}(hs:ShS s)(h1:r <:+ ts)(h2:r.length<ts.length)(h3:Sp.szs s.body+Sp.szs s.els+1+r.length<=ts.length)
  (h4:∀ d,d+ts.length<=M->C+(Gi s.idx).length+Ns s+((Sp.txts (d+1) s.body).length+(Sp.txts (d+1) s.els).length)+wt C r<=wt C ts):SQ M C ts s r:=by
 refine⟨hs,h1,h2,by grind[Nk],fun d hd=>?_⟩;have h5:=h4 d hd;have h6:=Bha d s
 have h7:s.nm.length<=12/\s.arg.length<=12:=by
  cases hs with
  | mk a1 a2 a3 a4 a5 _ _ _ _ _ _ _ _ _=>
   constructor
   .cases hn:Gx s.op
    .grind[Vh]
    grind
   .by_cases ha:s.op=15
    .grind[Vh]
    grind
 grind
theorem A17{M C:Nat}(hC:100+8*M<=C){n:Nat}{line:Int}{ts:List Tk}{s:Sp}{r:List Tk}(ht:D6 ts)(h:Vn n line ts=some (s,r)):SQ M C ts s r:=by
 unfold Vn at h
 split at h
 .cases h
 rename_i nm t1 hn;obtain⟨n1,n2,n3,n4⟩:=Uj (C:=C) ht hn;have qc:=Dr ht n2
 split at h
 .cases h
 rename_i ix t2 hi
 have jh:ix.length<=1/\(∀ x∈ix,ShE x)/\t2 <:+ t1/\t2.length<=t1.length/\(Gi ix).length+wt C t2<=wt C t1:=by
  unfold Anf at hi
  split at hi
  .rename_i hs;obtain⟨u1,u2,u3⟩:=Ng (C:=C) hs
   split at hi
   .cases hi
   .rename_i x q hx;obtain⟨a1,a2,a3,a4⟩:=(Ws (C:=C) AA n).1 _ _ _ _ (Dr qc u1) hx;simp only[Cg]at hi;obtain⟨q',hq,hi⟩:=hi;cases hi;obtain⟨b1,b2,b3⟩:=Mm (C:=C) hq
    grind[Ase]
  .simp_all [Gi]
 obtain⟨i1,i2,i3,i4,i5⟩:=jh;have qw:=Dr qc i3
 split at h
 .cases h
 rename_i t3 h3;obtain⟨c1,c2,c3⟩:=Mm (C:=C) h3;have jp:=Dr qw c1
 split at h
 .cases h
 rename_i x t4 hx;obtain⟨a1,a2,a3,a4⟩:=(Ws (C:=C) AA n).1 _ _ _ _ jp hx;simp only[Cg]at h;obtain⟨t5,h5,h⟩:=h;cases h;obtain⟨d1,d2,d3⟩:=Mm (C:=C) h5;refine Tb hC (.mk ⟨by simp[Au],by simp[Au]⟩ (by simp[Au,Gx]) (fun _=>n1) AM AM i1 AM i2 (fun _=>a1) (by simp[Au,Fg]) AM AM AM AM) ((((d1.trans a2).trans c1).trans i3).trans n2) AA (by grind[Au,Sp.szs]) fun d hd=>?_
 grind[Au,Ns,Sp.txts]
def Adq{M C:Nat}(hC:100+8*M<=C):∀ n,(∀ ts s r,D6 ts->I8 n ts=some (s,r)->SQ M C ts s r)/\(∀ ts l r,D6 ts->Fz n ts=some (l,r)->LQ (M+1) C ts l r)/\(∀ ts l r,D6 ts->Ln n ts=some (l,r)->LQ M C ts l r)
 | 0=>⟨fun _ _ _ _ h=>by grind[I8],fun _ _ _ _ h=>by grind[Fz],fun _ _ _ _ h=>by grind[Ln]⟩
 | n+1=>by
  obtain⟨qx,qy,qI⟩:=Adq hC n;refine⟨fun ts s r ht h=>?_,fun ts l r ht h=>?_,fun ts l r ht h=>?_⟩
  .cases ts with
   | nil=>grind[I8]
   | cons t ts=>
    have hw:=Uy C t ts;have qb:=Tz t ts;have qf:=Dr ht qb;rw[I8]at h
    split at h
    .grind[A17]
    split at h
    rotate_left
    .cases h
    have hr:=Asn t.text;generalize Eo t.text=w at h hr
    split at h
    .cases h
    split at h
    .rename_i qk
     split at h
     .cases h
     rename_i x t1 hx;obtain⟨a1,a2,a3,a4⟩:=(Ws (C:=C) AA n).1 _ _ _ _ qf hx;have qc:=Dr qf a2
     split at h
     .cases h
     rename_i b t2 hb;obtain⟨b1,b2,b3,b4,b5⟩:=qy _ _ _ qc hb;have qw:=Dr qc b2
     split at h
     .rename_i js;obtain⟨rfl,hs⟩:=js;obtain⟨u1,u2,u3⟩:=Ng (C:=C) hs
      split at h
      .cases h
      rename_i e t3 he;obtain⟨e1,e2,e3,e4,e5⟩:=qy _ _ _ (Dr qw u1) he;cases h;refine Tb hC (.mk ⟨by simp[Au],by simp[Au]⟩ AM (by simp[Au,Gx]) AM AM AM AM AM (fun _=>a1) (by simp[Au,Fg]) (by simp[Au,B3]) AM b1 e1) ((((e2.trans u1).trans b2).trans a2).trans qb) (by grind) (by grind) fun d hd=>?_
      grind[Au,Ns,Gi]
     .cases h;refine Tb hC (.mk (by grind[Au]) AM (by rcases qk with rfl | rfl<;>simp[Au,Gx]) (by grind[Au]) AM AM AM AM (fun _=>a1) (by rcases qk with rfl | rfl<;>simp[Au,Fg]) (by rcases qk with rfl | rfl<;>simp[Au,B3]) AM b1 AM) ((b2.trans a2).trans qb) (by grind) (by grind[Au,Sp.szs]) fun d hd=>?_
      rw[Bg]at hd;have:=b5 (d+1) AA
      have:Fg w=true:=by rcases qk with rfl | rfl<;>rfl
      simp only[Au,Ns,this,Gi,Dq,if_true,Sp.txts];omega
    .split at h
     .rename_i ql
      split at h
      .cases h
      rename_i b t2 hb;obtain⟨b1,b2,b3,b4,b5⟩:=qy _ _ _ qf hb;cases h;refine Tb hC (.mk (by grind[Au]) AM (by rcases ql with rfl | rfl<;>simp[Au,Gx]) (by grind[Au]) AM AM AM AM (by rcases ql with rfl | rfl<;>simp[Au,Fg]) (fun _=>⟨rfl,rfl,rfl,rfl⟩) (by rcases ql with rfl | rfl<;>simp[Au,B3]) AM b1 AM) (b2.trans qb) (by grind) (by grind[Au,Sp.szs]) fun d hd=>?_
      rw[Bg]at hd;have:=b5 (d+1) AA
      have:Fg w=false:=by rcases ql with rfl | rfl<;>rfl
      simp only[Au,Ns,this,Gi,Dq,Hj,if_false,Sp.txts];omega
     .split at h
      .cases h
      rename_i nm t1 hn;obtain⟨n1,n2,n3,n4⟩:=Uj (C:=C) qf hn;have qc:=Dr qf n2
      split at h
      .rename_i qg
       split at h
       .cases h
       rename_i b t2 hb;obtain⟨b1,b2,b3,b4,b5⟩:=qy _ _ _ qc hb;cases h;refine Tb hC (.mk (by grind[Au]) (by rcases qg with rfl | rfl | rfl<;>simp[Au,Gx]) (fun _=>n1) (by grind[Au]) AM AM AM AM (by rcases qg with rfl | rfl | rfl<;>simp[Au,Fg]) (fun _=>⟨rfl,rfl,rfl,rfl⟩) (by rcases qg with rfl | rfl | rfl<;>simp[Au,B3]) AM b1 AM) ((b2.trans n2).trans qb) (by grind) (by grind[Au,Sp.szs]) fun d hd=>?_
       rw[Bg]at hd;have:=b5 (d+1) AA
       have:Fg w=false:=by rcases qg with rfl | rfl | rfl<;>rfl
       simp only[Au,Ns,this,Gi,Dq,Hj,if_false,Sp.txts];omega
      .split at h
       .rename_i qS;subst qS
        split at h
        .cases h
        rename_i x t2 hx;obtain⟨a1,a2,a3,a4⟩:=(Ws (C:=C) AA n).1 _ _ _ _ qc hx;simp only[Cg]at h;obtain⟨t3,h3,h⟩:=h;cases h;obtain⟨d1,d2,d3⟩:=Mm (C:=C) h3;refine Tb hC (.mk ⟨by simp[Au],by simp[Au]⟩ (by simp[Au,Gx]) (fun _=>n1) AM AM AM AM AM (fun _=>a1) (by simp[Au,Fg]) AM AM AM AM) (((d1.trans a2).trans n2).trans qb) (by grind) (by grind[Au,Sp.szs]) fun d hd=>?_
        grind[Au,Ns,Gi,Sp.txts]
       .split at h
        .rename_i qT;subst qT
         split at h
         .cases h
         rename_i ar t2 ha;obtain⟨a1,a2,a3,a4⟩:=Uj (C:=C) qc ha;simp only[Cg]at h;obtain⟨t3,h3,h⟩:=h;cases h;obtain⟨d1,d2,d3⟩:=Mm (C:=C) h3;refine Tb hC (.mk ⟨by simp[Au],by simp[Au]⟩ (by simp[Au,Gx]) (fun _=>n1) (fun _=>a1) AM AM AM AM (by simp[Au,Fg]) (fun _=>⟨rfl,rfl,rfl,rfl⟩) AM AM AM AM) (((d1.trans a2).trans n2).trans qb) (by grind) (by grind[Au,Sp.szs]) fun d hd=>?_
         grind[Au,Ns,Fg,Gi,Sp.txts]
        .simp only[Cg]at h;obtain⟨t3,h3,h⟩:=h;cases h;obtain⟨d1,d2,d3⟩:=Mm (C:=C) h3;have qU:w=9\/w=10\/w=11\/w=12\/w=13:=by omega
         refine Tb hC (.mk (by grind[Au]) (by rcases qU with rfl | rfl | rfl | rfl | rfl<;>simp[Au,Gx]) (fun _=>n1) (by grind[Au]) AM AM AM AM (by rcases qU with rfl | rfl | rfl | rfl | rfl<;>simp[Au,Fg]) (fun _=>⟨rfl,rfl,rfl,rfl⟩) AM AM AM AM) ((d1.trans n2).trans qb) (by grind) (by grind[Au,Sp.szs]) fun d hd=>?_
         have:Fg w=false:=by rcases qU with rfl | rfl | rfl | rfl | rfl<;>rfl
         simp only[Au,Ns,this,Gi,Dq,Hj,if_false,Sp.txts];omega
  .rw[Fz]at h
   split at h
   .rename_i hs;obtain⟨u1,u2,u3⟩:=Ng (C:=C) hs;obtain⟨b1,b2,b3,b4,b5⟩:=qI _ _ _ (Dr ht u1) h;exact⟨b1,b2.trans u1,by omega,by omega,fun d hd=>by grind⟩
   grind
  .rw[Ln]at h
   split at h
   .rename_i hs;obtain⟨u1,u2,u3⟩:=Ng (C:=C) hs;cases h;exact⟨by simp,u1,by omega,by grind[Sp.szs],fun d hd=>by grind[Sp.txts]⟩
   .split at h
    .cases h
    rename_i s t1 hs;obtain⟨a1,a2,a3,a4,a5⟩:=qx _ _ _ ht hs
    split at h
    .cases h
    rename_i l' t2 hl;obtain⟨b1,b2,b3,b4,b5⟩:=qI _ _ _ (Dr ht a2) hl;cases h;refine⟨fun x hx=>?_,b2.trans a2,by omega,by grind[Sp.szs],fun d hd=>?_⟩
    .grind
    grind[Oj]
def Rr(C:Nat)(ts r:List Tk):Prop:=r <:+ ts/\r.length<=ts.length/\wt C r<=wt C ts
theorem Ps{C:Nat}{ts r:List Tk}(h:One C ts r):Rr C ts r:=⟨h.1,by have:=h.2.1;omega,by have:=h.2.2;omega⟩
theorem M8{C:Nat}{a b c:List Tk}(h:Rr C a b)(h':Rr C b c):Rr C a c:=⟨h'.1.trans h.1,Dc h'.2.1 h.2.1,Dc h'.2.2 h.2.2⟩
theorem Asp{C:Nat}(a:List Tk):Rr C a a:=⟨List.suffix_refl _,An _,An _⟩
def Amd{s:List UInt8}{ts:List Tk}(C:Nat)(h:A1 s ts=true):Rr C ts ts.tail:=by
 obtain⟨h1,h2,h3⟩:=Ng (C:=C) h;exact⟨h1,by omega,by omega⟩
def A7o{C:Nat}{ts r:List Tk}{n:Int}(ht:D6 ts)(h:Xs ts=some (n,r)):(0<=n/\n<=9223372036854775807)/\Rr C ts r:=by
 unfold Xs at h
 split at h
 .rename_i hs;have u:=Amd C hs
  split at h
  .cases h
  rename_i m q hq;obtain⟨n1,n2⟩:=Adp (C:=C) (Dr ht u.1) hq
  split at h
  .cases h
  simp only[Cg]at h;obtain⟨t3,h3,h⟩:=h;cases h;exact⟨n1,M8 (M8 u (Ps n2)) (Ps (Mm h3))⟩
 grind[Asp]
def Asq{C:Nat}{ts r:List Tk}{n:Int}(ht:D6 ts)(h:Ta ts=some (n,r)):(-9223372036854775808<n/\n<=9223372036854775807)/\Rr C ts r:=by
 unfold Ta at h
 split at h
 .rename_i hs;have u:=Amd C hs
  split at h
  .rename_i qD;have u2:=Amd C qD;simp only[Cg]at h;obtain⟨p,hp,h⟩:=h;obtain⟨m,q⟩:=p;cases h;obtain⟨n1,n2⟩:=Adp (C:=C) (Dr (Dr ht u.1) u2.1) hp
   grind[M8,Ps]
  .obtain⟨n1,n2⟩:=Adp (C:=C) (Dr ht u.1) h
   grind[M8,Ps]
 grind[Asp]
def DQ(C:Nat)(ts:List Tk)(d:Dp)(r:List Tk):Prop:=ShD d/\r <:+ ts/\r.length<ts.length/\(F6 d).length+2+wt C r<=wt C ts
def Af6{C:Nat}(hC:100<=C){t:Tk}{ts r:List Tk}{d:Dp}(h:ShD d)(hl:Rr C ts r):DQ C (t::ts) d r:=by
 have h1:=Vh h.nm
 have h2:d.on.length<=12:=by
  by_cases hk:d.kind=5
  .exact Vh (h.on.1 hk)
  .rw[h.on.2 hk];grind
 have h3:=Azv h1 h2;have h4:=Uy C t ts;exact⟨h,hl.1.trans (Tz t ts),by have:=hl.2.1;grind,by have:=hl.2.2;omega⟩
def Aok{C:Nat}(hC:100<=C){ts r:List Tk}{d:Dp}(ht:D6 ts)(hd:Sz ts=true)(h:Vg ts=some (d,r)):DQ C ts d r:=by
 cases ts with
 | nil=>cases h
 | cons t ts=>
  have hk:1<=H9 t.text/\H9 t.text<=6:=by
   simp only[Sz,Ak,bne_iff_ne]at hd;rcases Aso t.text with h | h
   .omega
   .exact h
  have qf:=Dr ht (Tz t ts);rw[Vg]at h;generalize H9 t.text=w at h hk
  split at h
  .cases h
  rename_i nm t1 hn;obtain⟨n1,n2⟩:=Uj (C:=C) qf hn;have n2:=Ps n2;have qc:=Dr qf n2.1
  split at h
  .split at h
   .cases h
   rename_i sz t2 hs;obtain⟨s1,s2⟩:=A7o (C:=C) qc hs
   split at h
   .cases h
   rename_i i t3 hi;obtain⟨i1,i2⟩:=Asq (C:=C) (Dr qc s2.1) hi;simp only[Cg]at h;obtain⟨t4,h4,h⟩:=h;cases h;exact Af6 hC ⟨by simp,n1,by grind,⟨i1.1,i1.2,by simp⟩,by simp⟩ (M8 (M8 (M8 n2 s2) i2) (Ps (Mm h4)))
  split at h
  .split at h
   .cases h
   rename_i i t3 hi;obtain⟨i1,i2⟩:=Asq (C:=C) qc hi;simp only[Cg]at h;obtain⟨t4,h4,h⟩:=h;cases h;exact Af6 hC ⟨by simp,n1,by simp,⟨i1.1,i1.2,by simp⟩,by simp⟩ (M8 (M8 n2 i2) (Ps (Mm h4)))
  split at h
  .split at h
   .cases h
   rename_i on t3 hi;obtain⟨i1,i2⟩:=Uj (C:=C) qc hi;simp only[Cg]at h;obtain⟨t4,h4,h⟩:=h;cases h;exact Af6 hC ⟨by simp,n1,by simp,by simp,by grind⟩ (M8 (M8 n2 (Ps i2)) (Ps (Mm h4)))
  .rename_i q1 q2 q5;simp only[Cg]at h;obtain⟨t4,h4,h⟩:=h;cases h;exact Af6 hC ⟨hk,n1,⟨by simp,by simp,fun _=>rfl⟩,⟨by simp,by simp,fun _ _=>rfl⟩,fun h=>absurd h q5,fun _=>rfl⟩ (M8 n2 (Ps (Mm h4)))
def Aod{C:Nat}(hC:100<=C):∀ (n:Nat) (ts:List Tk) (l:List Dp) (r:List Tk),D6 ts->Mr n ts=some (l,r)->(∀ d∈l,ShD d)/\r <:+ ts/\((l.map fun d=>F6 d++[59,10]).flatten).length+wt C r<=wt C ts
 | 0,ts,l,r,ht,h=>by cases h
 | n+1,ts,l,r,ht,h=>by
  rw[Mr]at h
  split at h
  .rename_i hd
   split at h
   .cases h
   rename_i d q hq;obtain⟨d1,d2,d3,d4⟩:=Aok hC ht hd hq
   split at h
   .cases h
   rename_i l' q' qR;obtain⟨e1,e2,e3⟩:=Aod hC n _ _ _ (Dr ht d2) qR
   grind
  grind
def Ao5{C:Nat}(hC:100<=C):∀ (n:Nat) (ts:List Tk) (l:List (List UInt8)) (r:List Tk),D6 ts->Ny n ts=some (l,r)->(∀ s∈l,B0 s=true)/\r <:+ ts/\r.length<ts.length/\(Fj l).length+wt C r<=wt C ts
 | 0,ts,l,r,ht,h=>by cases h
 | n+1,ts,l,r,ht,h=>by
  rw[Ny]at h
  split at h
  .cases h
  rename_i nm t1 hn;obtain⟨n1,n2,n3,n4⟩:=Uj (C:=C) ht hn;have n5:=Vh n1
  split at h
  .rename_i hs;obtain⟨u1,u2,u3⟩:=Ng (C:=C) hs
   split at h
   .cases h
   rename_i l' q hq;obtain⟨e1,e2,e3,e4⟩:=Ao5 hC n _ _ _ (Dr (Dr ht n2) u1) hq;cases h;have:=Aqf nm l'
   grind
  .simp only[Cg]at h;obtain⟨t4,h4,h⟩:=h;cases h;obtain⟨d1,d2,d3⟩:=Mm (C:=C) h4
   grind[Fj]
def ThQ(M C:Nat)(ts:List Tk)(t:Tp)(r:List Tk):Prop:=B0 t.nm=true/\(∀ s∈t.locals,B0 s=true)/\(∀ s∈t.body,ShS s)/\r <:+ ts/\r.length<ts.length/\Sp.szs t.body<=ts.length/\(Fw t).length+wt C r<=wt C ts
def Ao6{M C:Nat}(hC:100+8*M<=C){n:Nat}{ts r:List Tk}{t:Tp}(ht:D6 ts)(hM:ts.length<=M)(h:Vo n ts=some (t,r)):ThQ M C ts t r:=by
 cases ts with
 | nil=>cases h
 | cons t0 ts=>
  have hw:=Uy C t0 ts;have qb:=Tz t0 ts;have qf:=Dr ht qb;rw[Bg]at hM;rw[Vo]at h
  split at h
  .cases h
  rename_i nm t1 hn;obtain⟨n1,n2,n3,n4⟩:=Uj (C:=C) qf hn;have n5:=Vh n1;have qc:=Dr qf n2
  split at h
  .cases h
  rename_i t2 h2;obtain⟨c1,c2,c3⟩:=Mm (C:=C) h2;have qw:=Dr qc c1
  split at h
  .cases h
  rename_i l t3 hl
  have qP:(∀ s∈l,B0 s=true)/\t3 <:+ t2/\t3.length<=t2.length/\(Fj l).length+wt C t3<=wt C t2:=by
   unfold Amb at hl
   split at hl
   .grind[Ng,Fj]
   .obtain⟨e1,e2,e3,e4⟩:=Ao5 (C:=C) AA n _ _ _ qw hl
    grind
  obtain⟨l1,l2,l3,l4⟩:=qP
  split at h
  .cases h
  rename_i b t4 hb;obtain⟨b1,b2,b3,b4,b5⟩:=(Adq hC n).2.1 _ _ _ (Dr qw l2) hb;cases h;have:=b5 1 AA;refine⟨n1,l1,b1,(((b2.trans l2).trans c1).trans n2).trans qb,by grind,by grind,?_⟩
  grind[Fw,List.length_cons]
def Aol{M C:Nat}(hC:100+8*M<=C)(m:Nat):∀ (n:Nat) (ts:List Tk) (l:List Tp) (r:List Tk),D6 ts->ts.length<=M->Mt m n ts=some (l,r) ->
  (∀ t∈l,B0 t.nm=true)/\(∀ t∈l,∀ s∈t.locals,B0 s=true)/\(∀ t∈l,∀ s∈t.body,ShS s)/\(∀ t∈l,Sp.szs t.body<=M)/\((l.map Fw).flatten).length+wt C r<=wt C ts
 | 0,ts,l,r,ht,hM,h=>by cases h
 | n+1,ts,l,r,ht,hM,h=>by
  rw[Mt]at h
  split at h
  .split at h
   .cases h
   rename_i t q hq;obtain⟨d1,d2,d3,d4,d5,d6,d7⟩:=Ao6 hC ht hM hq
   split at h
   .cases h
   rename_i l' q' qR;obtain⟨e1,e2,e3,e4,e5⟩:=Aol hC m n _ _ _ (Dr ht d4) AA qR
   grind
  grind
def Wt:∀ (n:Nat) (ln:Int) (l:List UInt8) (ts:List Tk),En n ln l=some ts->ts.length<=l.length
 | n,ln,[],ts,h=>by
  simp_all [En]
 | 0,ln,c::r,ts,h=>by cases h
 | n+1,ln,c::r,ts,h=>by
  rw[En]at h
  split at h
  .have:=Wt n _ _ _ h
   grind
  .split at h
   .have:=Wt n _ _ _ h
    grind
   .split at h
    .have h1:=Wt n _ _ _ h
     grind[Z0]
    .split at h
     .cases h
     .rename_i k w hf;simp only[Cg]at h;obtain⟨l,hl,rfl⟩:=h;obtain⟨h1,q,h2⟩:=Acy hf;have h3:=Wt n _ _ _ hl
      grind
def A08{s:List UInt8}{p:Gp}(h:Ox s=some p):ShG p/\(Ij p).length<=1000000000/\∀ t∈p.thrs,Sp.szs t.body<=4096:=by
 unfold Ox at h
 split at h
 .cases h
 rename_i hs
 split at h
 .cases h
 rename_i ts ht;have hl:=Wt _ _ _ _ ht;have qC:=W3 _ _ _ _ ht
 split at h
 rotate_left
 .cases h
 rename_i p' hp;cases h;unfold Aa6 at hp
 split at hp
 .cases hp
 rename_i ds r hd;obtain⟨d1,d2,d3⟩:=Aod (C:=100+8*4096) AA _ _ _ _ qC hd
 split at hp
 .cases hp
 rename_i l r2 jq;obtain⟨t1,t2,t3,t4,t5⟩:=Aol (M:=4096) (C:=100+8*4096) (An _) _ _ _ _ _ (Dr qC d2) (by grind) jq
 split at hp
 .cases hp
 rename_i jA;cases hp;refine⟨⟨d1,t1,t2,t3,by grind⟩,?_,t4⟩
 grind[Ij,wt]
/-! programs that are equal apart from lines have one text -/
def A7p:∀ {l l':List Xp},U3 l l'=true->Gi l=Gi l'
 | [],[],_=>rfl
 | x::l,y::l',h=>by
  simp only[U3,Ak]at h;simp only[Gi,(Aip x y h.1).2.2]
 | [],_::_,h=>by cases h
 | _::_,[],h=>by cases h
mutual
theorem Bcd:∀ (s s':Sp),Amc s s'=true->∀ d,s.txt d=s'.txt d
 | ⟨op,line,nm,arg,iz,it,idx,ex,bz,bt,body,ez,et,els⟩,⟨op',line',nm',arg',iz',it',idx',ex',bz',bt',body',ez',et',els'⟩,h,d=>by
  simp only[Amc,Ak,beq_iff_eq]at h;obtain⟨rfl,rfl,rfl,hx,hi,hb,he⟩:=h;have h1:=(Aip ex ex' hx).2.2;have h2:=A7p hi;have h3:=Aje body body' hb (d+1);have h4:=Aje els els' he (d+1)
  simp_all [Nd,Ct]
theorem Aje:∀ (l l':List Sp),Aam l l'=true->∀ d,Sp.txts d l=Sp.txts d l'/\l.isEmpty=l'.isEmpty
 | [],[],_,d=>⟨rfl,rfl⟩
 | x::l,y::l',h,d=>by
  simp only[Aam,Ak]at h;rw[Oj,Oj,Bcd x y h.1 d,(Aje l l' h.2 d).1]
  grind
 | [],_::_,h,_=>by cases h
 | _::_,[],h,_=>by cases h
end
def A4c:((List.range 256).all fun i=>match (Ld (Nv TT PT 300) af102 [.int .u8 (i:Int)] []).bind fun p=>D8 p.2 p.1 with
  | some (.bool b)=>b==Md i
  | _=>false)=true:=by kernel_rfl
def Pk(c:UInt8):Fn TT PT 102 [.int .u8 (c.toNat:Int)] (.bool (Jt c)):=by
 have hr:=B6.1 A4c c.toNat (Gw.2 c.toNat_lt)
 split at hr
 .rename_i b hv;rw[show Jt c=b from(beq_iff_eq.1 hr).symm];exact Qz Ro T102 rfl rfl hv
 .cases hr
def A4d:((List.range 256).all fun i=>match (Ld (Nv TT PT 300) af104 [.int .u8 (i:Int)] []).bind fun p=>D8 p.2 p.1 with
  | some (.bool b)=>b==Rk i
  | _=>false)=true:=by kernel_rfl
def Sd(c:UInt8):Fn TT PT 104 [.int .u8 (c.toNat:Int)] (.bool (F8 c)):=by
 have hr:=B6.1 A4d c.toNat (Gw.2 c.toNat_lt)
 split at hr
 .rename_i b hv;rw[show F8 c=b from(beq_iff_eq.1 hr).symm];exact Qz Ro T104 rfl rfl hv
 .cases hr
def Aa7{p:UInt8->Bool}:∀ l:List UInt8,(∀ i,i<(l.takeWhile p).length->∃ x,l[i]?=some x/\p x=true)/\((l.takeWhile p).length<l.length->∃ x,l[(l.takeWhile p).length]?=some x/\p x=false)/\(l.takeWhile p).length<=l.length/\l.take (l.takeWhile p).length=l.takeWhile p
 | []=>⟨fun i h=>by simp at h,fun h=>by simp at h,by simp,rfl⟩
 | c::l=>by
  obtain⟨h1,h2,h3,h4⟩:=Aa7 (p:=p) l;rw[Ab7];by_cases hc:p c=true
  .rw[if_pos hc];refine⟨fun i hi=>?_,fun h=>?_,by grind,by simp[h4]⟩
   .cases i with
    | zero=>grind
    | succ i=>simp_all
   grind
  grind
def Hr{vs:List V}{σ:St}{v:V}(h:vs.all Df=true)(he:V.tup vs=v):FR (.tup vs) σ v:=he ▸ Fp h
def Tc(c:UInt8)(n:Nat)(hn:n<256):(((c.toNat:Int))==(n:Int))=(c==UInt8.ofNat n):=by
 by_cases h:c=UInt8.ofNat n
 .simp_all [Nat.mod_eq_of_lt]
 .have:(c.toNat:Int)≠n:=fun e=>h (by
   have:c.toNat=n:=by omega
   exact UInt8.toNat_inj.1 (by simp_all [Nat.mod_eq_of_lt]))
  grind
def Aw2(c:UInt8):O7 c=(Jt c||(F8 c||c==95)):=by
 unfold O7 Nx Jt F8;congr 2;have:=Tc c 95 AP
 grind
def nn(i:Nat):(0<=(i:Int))=True:=eq_true (Yi i)
def Ayq(s:List UInt8)(i:Nat)(h:i<=s.length):Tm (.str s) none (some (iV (i:Int)))=some (.str (s.take i)):=by
 rw[show Tm (.str s) none (some (iV (i:Int)))=(Du none 0).bind fun a=>(Du (some (iV (i:Int))) s.length).bind fun b=>if a<=b/\b<=s.length then some (V.str ((s.take b).drop a)) else none from rfl]
 simp_all [Du]
set_option maxHeartbeats 2000000 in
def Bce(c:UInt8)(r:List UInt8)(hl:(c::r).length<=4096):Fn TT PT 103 [.str (c::r)] (if 12<(E7 c r).length then .tup [.agg (Tk.row Tk.zero),iV 2] else .tup [.agg (Tk.row ⟨if Hx (E7 c r) then 3 else 1,E7 c r,0⟩),iV 0]):=by
 obtain⟨w1,w2,w3,w4⟩:=Aa7 (p:=O7) r;have hW:(c::r).take (E7 c r).length=E7 c r:=by simp[E7,w4]
 have qz:(E7 c r).length=(r.takeWhile O7).length+1:=by simp[E7]
 rw[Bg]at hl;generalize hn:(E7 c r).length=n at hW qz ⊢;refine Bc T103 rfl ?_;simp only[go_sem];refine Bh (α:=Nat) (fun i=>n - i) (fun i=>[(0,.str (c::r)),(2,.ptr 0 0 0),(4,iV (i:Int))]) (fun _=>[.row [iV 0,.str [],iV 0] 129 0 0]) (fun i=>1<=i/\i<=n) ?_ 1 ⟨by omega,by omega⟩;rintro i ⟨h1,h2⟩ ih;refine Az Bgh ?_;by_cases hi:i<n
 .obtain⟨x,x1,x2⟩:=w1 (i - 1) AA
  have x3:(c::r)[i]?=some x:=by
   obtain⟨j,rfl⟩:∃ j,i=j+1:=⟨i - 1,by omega⟩;simpa using x1
  have g1:decide ((i:Int)<((r.length+1:Nat):Int))=true:=by simp;omega
  have qu:((x.toNat:Int)==95)=(x==95):=Tc x 95 AP;have qa:=Ar (show i<r.length+1 by omega);have qh:=Ay (show i<9223372036854775807 by omega);rw[Aw2]at x2;by_cases hL:Jt x=true
  .simp only[go_sem,qa,nn,x3];refine Ab (Pk x) AB ?_;simp only[go_sem,hL,qh];exact Am (ih (i+1) AA AA) rfl
  .have hL:Jt x=false:=by simpa using hL
   by_cases hD:F8 x=true
   .simp only[go_sem,qa,nn,x3];refine Ab (Pk x) AB ?_;simp only[go_sem,hL,nn,x3];refine Ab (Sd x) AB ?_;simp only[go_sem,hD,qh];exact Am (ih (i+1) AA AA) rfl
   .have hD:F8 x=false:=by simpa using hD
    rw[hL,hD]at x2;simp only[Aci]at x2;simp only[go_sem,qa,nn,x3];refine Ab (Pk x) AB ?_;simp only[go_sem,hL,nn,x3];refine Ab (Sd x) AB ?_;simp only[go_sem,hD,nn,x3,qu,x2,qh];exact Am (ih (i+1) AA AA) rfl
 .obtain rfl:i=n:=by omega
  have gi:(i<=r.length+1)=True:=eq_true AA
  have qL:Tm (.str (c::r)) none (some (iV (i:Int)))=some (.str (E7 c r)):=by
   rw[Ayq _ _ (by grind),hW]
  by_cases hb:i<r.length+1
  .obtain⟨x,x1,x2⟩:=w2 AA;have x3:(c::r)[i]?=some x:=by rw[qz];simpa using x1
   have qu:((x.toNat:Int)==95)=(x==95):=Tc x 95 AP;have qa:=Ar (show i<r.length+1 by omega);rw[Aw2]at x2;simp only[Bool.or_eq_false_iff]at x2;obtain⟨hL,hD,h9⟩:=x2;simp only[go_sem,qa,nn,x3];refine Ab (Pk x) AB ?_;simp only[go_sem,hL,nn,x3];refine Ab (Sd x) AB ?_;simp only[go_sem,hD,nn,x3,qu,h9];by_cases qj:12<i
   .have qp:decide ((12:Int)<(i:Int))=true:=by simp;omega
    rw[if_pos qj];simp only[go_sem,gt_iff_lt,qp];exact Hr AB rfl
   .have qp:decide ((12:Int)<(i:Int))=false:=by simp;omega
    rw[if_neg qj];simp only[go_sem,gt_iff_lt,qp,nn,gi,hW,Av,true_and,if_true,Cy];refine Fu P149 rfl AK ?_;cases hk:Hx (E7 c r)
    .simp only[go_sem,hk,nn,gi,hW,Av,true_and,if_true,Cy];exact Hr AB rfl
    .simp only[go_sem,hk,nn,gi,hW,Av,true_and,if_true,Cy];exact Hr AB rfl
  .simp only[go_sem,Bi (show r.length+1<=i by omega)];by_cases qj:12<i
   .have qp:decide ((12:Int)<(i:Int))=true:=by simp;omega
    rw[if_pos qj];simp only[go_sem,gt_iff_lt,qp];exact Hr AB rfl
   .have qp:decide ((12:Int)<(i:Int))=false:=by simp;omega
    rw[if_neg qj];simp only[go_sem,gt_iff_lt,qp,nn,gi,hW,Av,true_and,if_true,Cy];refine Fu P149 rfl AK ?_;cases hk:Hx (E7 c r)
    .simp only[go_sem,hk,nn,gi,hW,Av,true_and,if_true,Cy];exact Hr AB rfl
    .simp only[go_sem,hk,nn,gi,hW,Av,true_and,if_true,Cy];exact Hr AB rfl
def Bcf(l:List UInt8)(c:UInt8):decide (0<=Lib.indexByte l c)=l.elem c:=by
 induction l with
 | nil=>rfl
 | cons b l ih=>
  have hg:=Lib.indexByte_ge l c;rw[Lib.indexByte,List.elem_cons]
  grind
def Au7:∀ l:List UInt8,(Lib.indexByte l 10 = -1/\(l.takeWhile (· != 10)).length=l.length)\/Lib.indexByte l 10=((l.takeWhile (· != 10)).length:Int)
 | []=>.inl ⟨rfl,rfl⟩
 | b::l=>by
  have ih:=Au7 l;rw[Lib.indexByte,Ab7]
  grind
def Akb(p:UInt8->Bool):∀ l:List UInt8,l.drop (l.takeWhile p).length=l.dropWhile p
 | []=>rfl
 | c::l=>by
  rw[Ab7,Ab6];cases p c
  .rfl
  .simp only[if_true,Bg,Ahd];exact Akb p l
def Aw3:∀ a b:List UInt8,(!(Op.bytesLess a b||a==b))=Op.bytesLess b a
 | [],[]=>rfl
 | [],b::y=>by simp[Op.bytesLess]
 | a::x,[]=>by simp[Op.bytesLess]
 | a::x,b::y=>by
  have ih:=Aw3 x y;simp only[Op.bytesLess,List.cons_beq_cons,<-ih];by_cases h:a=b
  .grind
  grind
def A18(l:List UInt8)(hl:l.length<=4096):Fn TT PT 64 [.str l] (iV ((l.takeWhile (· != 10)).length:Int)):=by
 refine Bc T64 rfl ?_;have hg:=Lib.indexByte_ge l 10;have ht:=Aa7 (p:=(· != 10)) l;have q:Ts [.str l,.int .u8 10]=some (iV (Lib.indexByte l 10)):=rfl;rcases Au7 l with⟨h1,h2⟩ | h1
 .rw[h1]at q;rw[h2];simp only[go_sem];refine Fu P101 AB q ?_;simp only[go_sem,ge_iff_le];exact Ae rfl rfl
 .rw[h1]at q;generalize(l.takeWhile (· != 10)).length=n at q;have f1:((0:Int)<=(n:Int))=True:=eq_true AA;simp only[go_sem];refine Fu P101 AB q ?_;simp only[go_sem,ge_iff_le,f1];exact Ae rfl rfl
def A7q(c:UInt8)(r:List UInt8)(hl:(c::r).length<=4096):Fn TT PT 106 [.str (c::r)] (iV (Lz (c::r):Int)):=by
 have q:Ts [.str oneS,.int .u8 (c.toNat:Int)]=some (iV (Lib.indexByte oneS c)):=by
  simp only[Ts,J0,Nat.toUInt8_eq,UInt8.ofNat_toNat]
 have jg:=Bcf oneS c;have jn:∀ b:Bool,oneS.elem c=b->decide (0<=Lib.indexByte oneS c)=b:=fun b h=>jg.trans h
 rw[Bg]at hl;refine Bc T106 rfl ?_
 have jd:∀ b:Bool,oneS.elem c=b->(0<=Lib.indexByte oneS c)=(b=true):=fun b h=>by
  grind
 have i0:(c::r)[0]?=some c:=rfl;have hk:∀ b:Bool,oneS.elem c=b->((0<=Lib.indexByte oneS c)=(b=true)):=jd;unfold Lz;by_cases h2:2<=r.length+1
 .have g2:((2:Int)<=((r.length+1:Nat):Int))=True:=eq_true AA;have g3:(2<=r.length+1)=True:=eq_true h2;have d2:decide (2<=(c::r).length)=true:=by simp;omega
  rw[d2,Acg];generalize hw:(c::r).take 2=w;by_cases a1:w=[124,124]
  .rw[a1]at hw ⊢;have e1:(([124,124]:List UInt8)==[124,124])=true:=by decide
   simp only[go_sem,ge_iff_le,g2,g3,hw,e1];exact Ae rfl rfl
  have e1:(w==[124,124])=false:=by simp[a1]
  by_cases a2:w=[38,38]
  .rw[a2]at hw ⊢;rw[a2]at e1;have e2:(([38,38]:List UInt8)==[38,38])=true:=by decide
   simp only[go_sem,ge_iff_le,g2,g3,hw,e1,e2];exact Ae rfl rfl
  have e2:(w==[38,38])=false:=by simp[a2]
  by_cases a3:w=[61,61]
  .rw[a3]at hw ⊢;rw[a3]at e1;rw[a3]at e2;have e3:(([61,61]:List UInt8)==[61,61])=true:=by decide
   simp only[go_sem,ge_iff_le,g2,g3,hw,e1,e2,e3];exact Ae rfl rfl
  have e3:(w==[61,61])=false:=by simp[a3]
  by_cases a4:w=[33,61]
  .rw[a4]at hw ⊢;rw[a4]at e1;rw[a4]at e2;rw[a4]at e3;have e4:(([33,61]:List UInt8)==[33,61])=true:=by decide
   simp only[go_sem,ge_iff_le,g2,g3,hw,e1,e2,e3,e4];exact Ae rfl rfl
  have e4:(w==[33,61])=false:=by simp[a4]
  by_cases a5:w=[60,61]
  .rw[a5]at hw ⊢;rw[a5]at e1;rw[a5]at e2;rw[a5]at e3;rw[a5]at e4;have e5:(([60,61]:List UInt8)==[60,61])=true:=by decide
   simp only[go_sem,ge_iff_le,g2,g3,hw,e1,e2,e3,e4,e5];exact Ae rfl rfl
  have e5:(w==[60,61])=false:=by simp[a5]
  by_cases a6:w=[62,61]
  .rw[a6]at hw ⊢;rw[a6]at e1;rw[a6]at e2;rw[a6]at e3;rw[a6]at e4;rw[a6]at e5;have e6:(([62,61]:List UInt8)==[62,61])=true:=by decide
   simp only[go_sem,ge_iff_le,g2,g3,hw,e1,e2,e3,e4,e5,e6];exact Ae rfl rfl
  have e6:(w==[62,61])=false:=by simp[a6]
  have en:twoS.elem w=false:=by simp[twoS,a1,a2,a3,a4,a5,a6]
  rw[en];cases hb:oneS.elem c
  all_goals
   have f:=hk _ hb;simp only[go_sem,ge_iff_le,g2,g3,hw,e1,e2,e3,e4,e5,e6,i0];refine Fu P101 AB q ?_;simp only[go_sem,ge_iff_le,f];exact Ae rfl (by grind)
 .have g2:((2:Int)<=((r.length+1:Nat):Int))=False:=eq_false AA;have d2:decide (2<=(c::r).length)=false:=decide_eq_false AA;rw[d2,V7];cases hb:oneS.elem c
  all_goals
   have f:=hk _ hb;simp only[go_sem,ge_iff_le,g2,i0];refine Fu P101 AB q ?_;simp only[go_sem,ge_iff_le,f];exact Ae rfl (by grind)
def Bcg(c:UInt8)(r:List UInt8)(hc:F8 c=true)(hl:(c::r).length<=4096):Fn TT PT 105 [.str (c::r)] (if Vf (r.dropWhile F8) then .tup [.agg (Tk.row Tk.zero),iV 3] else if Re (Ew c r) then .tup [.agg (Tk.row ⟨2,Ew c r,0⟩),iV 0] else .tup [.agg (Tk.row Tk.zero),iV 3]):=by
 obtain⟨w1,w2,w3,w4⟩:=Aa7 (p:=F8) r;have hd:=Akb F8 r;have hW:(c::r).take (Ew c r).length=Ew c r:=by simp[Ew,w4]
 have qz:(Ew c r).length=(r.takeWhile F8).length+1:=by simp[Ew]
 rw[Bg]at hl;generalize hn:(Ew c r).length=n at hW qz ⊢;refine Bc T105 rfl ?_;simp only[go_sem];refine Bh (α:=Nat) (fun i=>n - i) (fun i=>[(0,.str (c::r)),(2,.ptr 0 0 0),(4,iV (i:Int))]) (fun _=>[.row [iV 0,.str [],iV 0] 129 0 0]) (fun i=>1<=i/\i<=n) ?_ 1 ⟨by omega,by omega⟩;rintro i ⟨h1,h2⟩ ih;refine Az Bgi ?_;by_cases hi:i<n
 .obtain⟨x,x1,x2⟩:=w1 (i - 1) AA
  have x3:(c::r)[i]?=some x:=by
   obtain⟨j,rfl⟩:∃ j,i=j+1:=⟨i - 1,by omega⟩;simpa using x1
  have qa:=Ar (show i<r.length+1 by omega);have qh:=Ay (show i<9223372036854775807 by omega);simp only[go_sem,qa,nn,x3];refine Ab (Sd x) AB ?_;simp only[go_sem,x2,qh];exact Am (ih (i+1) AA AA) rfl
 .obtain rfl:i=n:=by omega
  have gi:(i<=r.length+1)=True:=eq_true AA
  have qL:Tm (.str (c::r)) none (some (iV (i:Int)))=some (.str (Ew c r)):=by
   rw[Ayq _ _ (by grind),hW]
  have qQ:Re (Ew c r)=!(decide (19<((Ew c r).dropWhile (·==48)).length)||(decide (((Ew c r).dropWhile (·==48)).length=19)&&Op.bytesLess greatS ((Ew c r).dropWhile (·==48)))):=rfl;have q:Ya [.str (Ew c r),.str [48]]=some (.str ((Ew c r).dropWhile (·==48))):=rfl;generalize(Ew c r).dropWhile (·==48)=d at qQ q
  have qB:(i<r.length+1/\∃ x,(c::r)[i]?=some x/\F8 x=false/\Vf (r.dropWhile F8)=(Jt x||x==95))\/(r.length+1<=i/\Vf (r.dropWhile F8)=false):=by
   by_cases hb:i<r.length+1
   .obtain⟨x,x1,x2⟩:=w2 AA;have x3:(c::r)[i]?=some x:=by rw[qz];simpa using x1
    refine .inl ⟨hb,x,x3,x2,?_⟩;rw[<-hd,Gr (Al.1 x1).1,(Al.1 x1).2];rfl
   .refine .inr ⟨by omega,?_⟩;rw[<-hd,Dt AA];rfl
  have q:Ya [.str (Ew c r),.str [48]]=some (.str d):=q;have qH:(!(Op.bytesLess d [57,50,50,51,51,55,50,48,51,54,56,53,52,55,55,53,56,48,55]||d==[57,50,50,51,51,55,50,48,51,54,56,53,52,55,55,53,56,48,55]))=Op.bytesLess greatS d:=Aw3 d greatS
  have tail:∀ b:Bool,Re (Ew c r)=b->(b=true/\decide (19<(d.length:Int))=false/\(((d.length:Int)==19)=false\/(((d.length:Int)==19)=true/\Op.bytesLess greatS d=false)))\/(b=false/\(decide (19<(d.length:Int))=true\/(decide (19<(d.length:Int))=false/\((d.length:Int)==19)=true/\Op.bytesLess greatS d=true))):=fun b hb=>by
   grind
  rcases qB with⟨hb,x,x3,hD,hg⟩ | ⟨hb,hg⟩
  .have qa:=Ar hb;have qu:((x.toNat:Int)==95)=(x==95):=Tc x 95 AP;simp only[go_sem,qa,nn,x3];refine Ab (Sd x) AB ?_;simp only[go_sem,hD,qa,nn,x3];refine Ab (Pk x) AB ?_;rw[hg];cases hL:Jt x
   .cases h9:(x==95)
    .simp only[go_sem,nn,x3,qu,h9,gi,hW,Av,true_and,if_true,Cy];refine Fu P150 AB q ?_;rcases tail _ rfl with⟨hb,k1,k2 | ⟨k2,k3⟩⟩ | ⟨hb,k1 | ⟨k1,k2,k3⟩⟩
     all_goals rw[hb]
     .simp only[go_sem,gt_iff_lt,k1,k2,nn,gi,hW,Av,true_and,if_true,Cy];exact Hr AB rfl
     .simp only[go_sem,gt_iff_lt,k1,k2,qH,k3,nn,gi,hW,Av,true_and,if_true,Cy];exact Hr AB rfl
     .simp only[go_sem,gt_iff_lt,k1];exact Hr AB rfl
     .simp only[go_sem,gt_iff_lt,k1,k2,qH,k3];exact Hr AB rfl
    .simp only[go_sem,nn,x3,qu,h9];exact Hr AB rfl
   .simp only[go_sem];exact Hr AB rfl
  .rw[hg];simp only[go_sem,Bi hb,nn,gi,hW,Av,true_and,if_true,Cy];refine Fu P150 AB q ?_;rcases tail _ rfl with⟨hb,k1,k2 | ⟨k2,k3⟩⟩ | ⟨hb,k1 | ⟨k1,k2,k3⟩⟩
   all_goals rw[hb]
   .simp only[go_sem,gt_iff_lt,k1,k2,nn,gi,hW,Av,true_and,if_true,Cy];exact Hr AB rfl
   .simp only[go_sem,gt_iff_lt,k1,k2,qH,k3,nn,gi,hW,Av,true_and,if_true,Cy];exact Hr AB rfl
   .simp only[go_sem,gt_iff_lt,k1];exact Hr AB rfl
   .simp only[go_sem,gt_iff_lt,k1,k2,qH,k3];exact Hr AB rfl
def A7r(c:UInt8)(r:List UInt8)(hl:(c::r).length<=4096):∃ e:Int,e≠0/\Fn TT PT 65 [.str (c::r)] (match Nl (c::r) with
  | some (k,w)=>.tup [.agg (Tk.row ⟨k,w,0⟩),.int .i64 0]
  | none=>.tup [.agg (Tk.row Tk.zero),.int .i64 e]):=by
 have i0:(c::r)[0]?=some c:=rfl;have hT:TT 65=some af65:=by rfl
 cases hL:Jt c
 .cases hD:F8 c
  .have hs:=A7q c r hl;by_cases h0:Lz (c::r)=0
   .have hf:Nl (c::r)=none:=by rw[Wk,if_neg (by grind),if_neg (by grind),if_pos h0]
    rw[hf];have e0:((Lz (c::r):Int)==0)=true:=by rw[h0];rfl
    refine⟨3,by decide,Bc T65 rfl ?_⟩;simp only[go_sem,i0];refine Ab (Pk c) AB ?_;simp only[go_sem,hL];refine Ab (Sd c) AB ?_;simp only[go_sem,hD];refine Ab hs AB ?_;simp only[go_sem,e0];exact Hr AB rfl
   .have hf:Nl (c::r)=some (4,(c::r).take (Lz (c::r))):=by rw[Wk,if_neg (by grind),if_neg (by grind),if_neg h0]
    rw[hf];have qN:=(Au6 h0).2;rw[Bg]at qN;generalize Lz (c::r)=n at hs h0 qN ⊢;have e0:((n:Int)==0)=false:=by rw[beq_eq_false_iff_ne];omega
    have gi:(n<=r.length+1)=True:=eq_true qN;generalize hw:(c::r).take n=w;refine⟨3,by decide,Bc T65 rfl ?_⟩;simp only[go_sem,i0];refine Ab (Pk c) AB ?_;simp only[go_sem,hL];refine Ab (Sd c) AB ?_;simp only[go_sem,hD];refine Ab hs AB ?_;simp only[go_sem,e0,nn,gi,hw,Av,true_and,if_true,Cy];exact Hr AB rfl
  .have hs:=Bcg c r hD hl;have je:Jt c≠true:=by rw[hL];decide
   refine⟨3,by decide,Bc T65 rfl ?_⟩
   have hf:Nl (c::r)=if Vf (r.dropWhile F8) then none else if Re (Ew c r) then some (2,Ew c r) else none:=by rw[Wk,if_neg je,if_pos hD]
   rw[hf]
   cases hg:Vf (r.dropWhile F8)<;>cases hk:Re (Ew c r)
   all_goals
    rw[hg]at hs;rw[hk]at hs;simp only[Hj,if_false,if_true,Tk.row,Tk.zero]at hs ⊢;simp only[go_sem,i0];refine Ab (Pk c) AB ?_;simp only[go_sem,hL];refine Ab (Sd c) AB ?_;simp only[go_sem,hD];refine Ab hs AB ?_;simp only[go_sem];exact Hr AB rfl
 .have hs:=Bce c r hl;refine⟨2,by decide,Bc T65 rfl ?_⟩
  have hf:Nl (c::r)=if 12<(E7 c r).length then none else some (if Hx (E7 c r) then 3 else 1,E7 c r):=by rw[Wk,if_pos hL]
  rw[hf];by_cases qj:12<(E7 c r).length
  .rw[if_pos qj]at hs ⊢;simp only[Tk.row,Tk.zero]at hs ⊢;simp only[go_sem,i0];refine Ab (Pk c) AB ?_;simp only[go_sem,hL];refine Ab hs AB ?_;simp only[go_sem];exact Hr AB rfl
  .rw[if_neg qj]at hs ⊢;simp only[Tk.row]at hs ⊢;generalize(if Hx (E7 c r)=true then(3:Int) else 1)=k at hs ⊢;simp only[go_sem,i0];refine Ab (Pk c) AB ?_;simp only[go_sem,hL];refine Ab hs AB ?_;simp only[go_sem];exact Hr AB rfl
/-! the whole text -/
def Ame{f p:Nat}{res:List AR}{body:AC}{vs:List V}{R:V->Prop}(hT:TT f=some ⟨p,res,false,body,none⟩)(hl:vs.length=p)(h:W TT PT [.c body] (C6 0 vs) [] (Hd fun e' σ1=>∃ v,FQ res v e' σ1/\R v)):∃ v,Fn TT PT f vs v/\R v:=by
 obtain⟨e',σ',hE,v,hq,hR⟩:=h;exact⟨v,Bc hT hl ⟨e',σ',hE,hq⟩,hR⟩
def Bhb{σ:St}{m e i g:Nat}{xs:List (List V)}{w y:Int}(ho:σ[i]?=some (.row xs.flatten e g 0))(hm:0<m)(hl:∀ r∈xs,r.length=m)(hr:∀ r∈xs,r.all V.rowB=true):
  FR (.tup [.sl i g 0 xs.length m true,iV w,iV y]) σ (.tup [.lst 0 xs,iV w,iV y]):=by
 obtain⟨hi,jC⟩:=Al.1 ho;have hx:Ah xs.flatten=[]:=Ff (Gl hr);have h0:ren 0 [i] i=0:=by simp[ren,Yk]
 refine .inr ⟨[i],?_,?_⟩
 .simp only[Hm,Cb,Gc,V.refs,Ah,Bp,Ce,V.cellB,Bw]
  grind[Ef,Ob.refs]
 .simp only[Lo,ho,Rx,A2,Bz,Ob.ren,Nh i _ (Gl hr),V.ren,E6,h0,D8,Iw];have ha:OV [Ob.row xs.flatten e g 0] (V.sl 0 g 0 xs.length m true) (.lst 0 xs):=Oo (Pz (i:=0) (g:=g) (e:=e) (z:=0) (w:=true) rfl hm hl hr) rfl;have ja:∀ n:Int,OV [Ob.row xs.flatten e g 0] (iV n) (iV n):=fun n=>H2 rfl
  exact congrArg (Option.map V.tup) (Sl (.cons ha (.cons (ja w) (.cons (ja y) .nil))) fun j hj=>Ml _ _ _ _ (Pe.2 hj))
def Bhc{σ:St}{m e lo:Nat}{u:V}{w y:Int}{xs:List (List V)}(h:GW σ m e lo u xs)(hm:0<m)(hl:∀ r∈xs,r.length=m)(hr:∀ r∈xs,r.all V.rowB=true):
  FR (.tup [u,iV w,iV y]) σ (.tup [SL true 0 xs,iV w,iV y]):=by
 rcases h with⟨rfl,rfl⟩ | ⟨hn,i,g,rfl,ho,jz⟩
 .exact Fp rfl
 .rw[S7 hn];exact Bhb ho hm hl hr
def Bhd(c:UInt8)(r:List UInt8):Lib.hasPrefix (c::r) [47,47]=decide (c=47/\r.head?=some 47):=by
 unfold Lib.hasPrefix
 cases r with
 | nil=>grind
 | cons d r=>
  grind
def Amf(s:List UInt8)(v:V):Prop:=match (if 4096<s.length then none else En s.length 1 s) with
 | some L=>v=.tup [SL true 0 (L.map Tk.row),.int .i64 0,.int .i64 0]
 | none=>∃ e ln:Int,e≠0/\v=.tup [.nils,.int .i64 e,.int .i64 ln]
def Bhe(t:Tk):t.row.length=3:=rfl
def Bhf(t:Tk):t.row.all V.rowB=true:=rfl
def Bch(s:List UInt8):∃ v,Fn TT PT 35 [.str s] v/\Amf s v:=by
 refine Ame T35 rfl ?_;unfold Amf;by_cases qA:4096<s.length
 .have f1:((4096:Int)<(s.length:Int))=True:=eq_true AA;rw[if_pos qA];simp only[go_sem,gt_iff_lt,f1];exact⟨_,Fp AK,2,0,by decide,rfl⟩
 .have f1:((4096:Int)<(s.length:Int))=False:=eq_false AA;rw[if_neg qA];simp only[go_sem,gt_iff_lt,f1];refine Bh (α:=Nat × Nat × V × List Tk × St) (fun a=>s.length - a.1) (fun a=>[(0,.str s),(5,a.2.2.1),(6,iV (a.2.1:Int)),(7,iV (a.1:Int))]) (fun a=>a.2.2.2.2) (fun a=>a.1<=s.length/\a.2.1<=a.1+1/\a.2.2.2.1.length<=a.1/\GW a.2.2.2.2 3 129 0 a.2.2.1 (a.2.2.2.1.map Tk.row)/\En s.length 1 s=(En s.length (a.2.1:Int) (s.drop a.1)).map (a.2.2.2.1++·)) ?_ (0,1,.nils,[],[]) ⟨Av _,An _,An _,De,by simp⟩;rintro⟨i,ln,u,L,σ⟩ ⟨hi,jk,hL,hg,qd⟩ ih;simp only at hi jk hL hg qd ih
  have qZ:∀ r∈L.map Tk.row,r.length=3:=by
   intro r hr;obtain⟨x,-,rfl⟩:=Cs.1 hr;exact Bhe x
  have jo:∀ r∈L.map Tk.row,r.all V.rowB=true:=by
   intro r hr;obtain⟨x,-,rfl⟩:=Cs.1 hr;exact Bhf x
  refine Az Bll ?_;by_cases hc:i<s.length
  .obtain⟨c,r,qi⟩:∃ c r,s.drop i=c::r:=by
    rw[Gr hc]
    grind
   have x3:s[i]?=some c:=by
    have:=congrArg (·[0]?) qi;simpa using this
   have qO:(c::r).length=s.length - i:=by rw[<-qi,E3]
   have jD:s.drop (i+1)=r:=by
    have:=congrArg List.tail qi;simpa[List.tail_drop] using this
   have qa:=Ar hc;have gi:(i<=s.length)=True:=eq_true hi;have qo:((c.toNat:Int)==10)=(c==UInt8.ofNat 10):=Tc c 10 AP;have qt:((c.toNat:Int)==32)=(c==UInt8.ofNat 32):=Tc c 32 AP;have e9:((c.toNat:Int)==9)=(c==UInt8.ofNat 9):=Tc c 9 AP;have qE:((c.toNat:Int)==13)=(c==UInt8.ofNat 13):=Tc c 13 AP;have qh:=Ay (show i<9223372036854775807 by omega);have qM:=Ay (show ln<9223372036854775807 by omega);obtain⟨k,hk⟩:∃ k,s.length=k+1:=⟨s.length - 1,by omega⟩;rw[Bg]at qO
   have qe:En s.length (ln:Int) (s.drop i)=if c=10 then En k ((ln:Int)+1) r else if c=32\/c=9\/c=13 then En k (ln:Int) r else if c=47/\r.head?=some 47 then En k (ln:Int) ((c::r).dropWhile (· != 10)) else match Nl (c::r) with
     | none=>none
     | some (q,w)=>(En k (ln:Int) ((c::r).drop w.length)).map fun l=>⟨q,w,(ln:Int)⟩::l:=by rw[hk,qi];rfl
   have any:∀ (n:Int) (l:List UInt8),l.length<=k->En k n l=En s.length n l:=fun n l h=>Zf _ _ n l h AA
   by_cases qF:c=10
   .have qm:(c==UInt8.ofNat 10)=true:=by rw[qF];rfl
    rw[if_pos qF,any _ _ AA]at qe;simp only[go_sem,qa,nn,x3,qo,qm,qh,qM];refine Am (ih (i+1,ln+1,u,L,σ) AA ⟨by omega,by grind,by grind,hg,?_⟩) rfl
    grind
   .have qm:(c==UInt8.ofNat 10)=false:=by rw[beq_eq_false_iff_ne];exact qF
    rw[if_neg qF]at qe;by_cases qs:c=32\/c=9\/c=13
    .rw[if_pos qs,any _ _ AA]at qe
     have next:W TT PT _ [(0,.str s),(5,u),(6,iV (ln:Int)),(7,iV ((i+1:Nat):Int))] σ _:=ih (i+1,ln,u,L,σ) AA ⟨by omega,by grind,by grind,hg,by grind⟩
     rcases qs with rfl | rfl | rfl
     .simp only[go_sem,qa,nn,x3,qo,qm,qt,(show((32:UInt8)==UInt8.ofNat 32)=true from rfl),qh]
      exact Am next rfl
     .simp only[go_sem,qa,nn,x3,qo,qm,qt,e9,(show((9:UInt8)==UInt8.ofNat 32)=false from rfl),(show((9:UInt8)==UInt8.ofNat 9)=true from rfl),qh]
      exact Am next rfl
     .simp only[go_sem,qa,nn,x3,qo,qm,qt,e9,qE,(show((13:UInt8)==UInt8.ofNat 32)=false from rfl),(show((13:UInt8)==UInt8.ofNat 9)=false from rfl),(show((13:UInt8)==UInt8.ofNat 13)=true from rfl),qh]
      exact Am next rfl
    .rw[if_neg qs]at qe;simp only[not_or]at qs;have qK:(c==UInt8.ofNat 32)=false:=by rw[beq_eq_false_iff_ne];exact qs.1
     have b9:(c==UInt8.ofNat 9)=false:=by rw[beq_eq_false_iff_ne];exact qs.2.1
     have qJ:(c==UInt8.ofNat 13)=false:=by rw[beq_eq_false_iff_ne];exact qs.2.2
     have q:hpS [.str (c::r),.str [47,47]]=some (.bool (decide (c=47/\r.head?=some 47))):=by rw[<-Bhd];rfl
     by_cases qG:c=47/\r.head?=some 47
     .rw[if_pos qG]at qe;rw[decide_eq_true qG]at q;have hd:=Z0 (· != 10) (c::r);have qW:=A18 (c::r) (by grind);have qX:=Akb (· != 10) (c::r)
      have jl:1<=((c::r).takeWhile (· != 10)).length:=by
       rw[Ab7,if_pos (by grind)];simp
      have qY:((c::r).takeWhile (· != 10)).length<=(c::r).length:=(Aa7 (c::r)).2.2.1
      have jm:((c::r).dropWhile (· != 10)).length<=k:=by
       rw[<-qX,E3,Bg];omega
      rw[any _ _ jm,<-qX]at qe;rw[Bg]at qY;generalize((c::r).takeWhile (· != 10)).length=n at qW qe jl qY;have qr:IntKind.i64.wrap ((i:Int)+(n:Int))=((i+n:Nat):Int):=by rw[B7 AA];omega
      simp only[go_sem,qa,nn,x3,qo,qm,qt,qK,e9,b9,qE,qJ,gi,qi,Av,An,Dg,true_and,if_true,Cy];refine Fu P63 AB q ?_;simp only[go_sem,nn,gi,qi,Av,An,Dg,true_and,if_true,Cy];refine Ab qW AB ?_;simp only[go_sem,qr];refine Am (ih (i+n,ln,u,L,σ) AA ⟨by omega,by grind,by grind,hg,?_⟩) rfl
      grind[List.drop_drop]
     .rw[if_neg qG]at qe;rw[decide_eq_false qG]at q;obtain⟨e,he,qv⟩:=A7r c r (by grind);have jb:∀ a:Ob,(σ++[a])[σ.length]?=some a:=fun a=>by simp
      have jc:∀ a b:Ob,(σ++[a]).set σ.length b=σ++[b]:=fun a b=>by grind
      cases hf:Nl (c::r) with
      | none=>
       rw[hf]at qv qe;simp only[Tk.row,Tk.zero]at qv;have ne:(e != 0)=true:=by simp[he]
       have qd:En s.length 1 s=none:=by rw[qd,qe];rfl
       rw[qd];simp only[go_sem,qa,nn,x3,qo,qm,qt,qK,e9,b9,qE,qJ,gi,qi,Av,An,Dg,true_and,if_true,Cy];refine Fu P63 AB q ?_;simp only[go_sem,nn,gi,qi,Av,An,Dg,true_and,if_true,Cy];refine Ab qv AB ?_;simp only[go_sem,jb,jc,ne];exact⟨_,Fp AK,e,_,he,rfl⟩
      | some p=>
       obtain⟨kd,w⟩:=p;rw[hf]at qv qe;simp only[Tk.row]at qv qe;obtain⟨jE,qq,jt⟩:=Acy hf
       have jF:w.length+qq.length=r.length+1:=by
        have:=congrArg List.length jt;simp at this;omega
       have qr:IntKind.i64.wrap ((i:Int)+(w.length:Int))=((i+w.length:Nat):Int):=by rw[B7 AA];omega
       have ne:((0:Int) != 0)=false:=by decide
       have jf:GW (σ++[.row [iV kd,.str w,iV (ln:Int)] 129 0 0]) 3 129 0 u (L.map Tk.row):=H0 hg;obtain⟨u',σ',ha,ju,jy,ji,-⟩:=G9 (bytes:=32) (y:=.lst 1 [[iV kd,.str w,iV (ln:Int)]]) (ys:=[[iV kd,.str w,iV (ln:Int)]]) jf (Av _) rfl AA qZ AE (by grind)
       have jj:σ'[σ.length]?=some (.row [iV kd,.str w,iV (ln:Int)] 129 0 0):=by
        rw[ji σ.length ?_ AE]
        .grind
        .intro j g hj jw;rcases hg with⟨rfl,-⟩ | ⟨-,j',g',rfl,ho,-⟩
         .cases hj
         grind
       have qV:=Bx hg;rw[any _ _ (by grind)]at qe;simp only[go_sem,qa,nn,x3,qo,qm,qt,qK,e9,b9,qE,qJ,gi,qi,Av,An,Dg,true_and,if_true,Cy];refine Fu P63 AB q ?_;simp only[go_sem,nn,gi,qi,Av,An,Dg,true_and,if_true,Cy];refine Ab qv AB ?_;simp only[go_sem,jb,jc,ne,ha,jj,qr];refine Am (ih (i+w.length,ln,u',L++[⟨kd,w,(ln:Int)⟩],σ') AA ⟨by omega,by grind,by grind,by grind[Tk.row],?_⟩) rfl;simp only;rw[qd,qe,<-V6,qi]
       cases En s.length (ln:Int) ((c::r).drop w.length) with
       | none=>rfl
       | some l=>simp
  .have jv:i=s.length:=by omega
   simp only[go_sem,Bi (show s.length<=i by omega)]
   have hz:En s.length (ln:Int) (s.drop i)=some []:=by
    rw[Dt AA]
    cases s.length<;>rfl
   rw[hz]at qd;rw[qd];refine⟨_,Bhc hg AA qZ jo,?_⟩;simp
