/- Plain: the first lines of shaped statements are printable. -/
import Derived.Test.YtphikjgngompaabGreatDoorIb
import Derived.Test.YtphikjgngompaabGreatDoorPn
set_option linter.all false
namespace Go.Proofs.YtphikjgngompaabGreatDoor.KM
open Go
def Ib(l:List UInt8):Prop:=∀ c∈l,32<=c.toNat/\c.toNat<=126
def Vw:Ib []:=fun c h=>by cases h
def Js{a b:List UInt8}(ha:Ib a)(hb:Ib b):Ib (a++b):=fun c h=>by
 rcases Cu.1 h with h | h
 .exact ha c h
 .exact hb c h
def Hl{c:UInt8}{l:List UInt8}(hc:32<=c.toNat/\c.toNat<=126)(h:Ib l):Ib (c::l):=fun d hd=>by
 rcases Bp.1 hd with rfl | hd
 .exact hc
 .exact h d hd
def Azq{c:UInt8}(h:Du c=true):32<=c.toNat/\c.toNat<=126:=by
 unfold Du Ms at h;simp at h;omega
def Blj{n:Int}(h:0<=n/\n<=9223372036854775807):Ib (B3 n):=by
 obtain⟨⟨c,cs,e,h1,h2⟩,-⟩:=Am3 n h;rw[e];exact Hl (Azq h1) fun d hd=>Azq (h2 d hd)
def Afq{l:List UInt8}(h:Bm l=true):Ib l:=fun c hc=>by
 unfold Bm at h;simp only[Ai,Bu,Eg]at h;obtain⟨j,hj,rfl⟩:=List.mem_iff_getElem.1 hc;have h1:=h.2.2.2 j hj;unfold Jd K6 Ms at h1;rw[Ef,B9 hj,Q8]at h1;simp at h1;omega
def A00(op:Int):Ib (Bz op):=by
 unfold Bz Ib
 split<;>decide
def Aa3(op:Int):Ib (Co op):=by
 unfold Co Ib
 split<;>decide
def Am4{o:Int × List UInt8}{l:Int}(h:Ib o.2):Ib (Dg o l):=by
 unfold Dg
 split
 .exact Hl AG (Js h (Hl AG Vw))
 .exact h
def Agt{x:Xp}(h:ShE x):Ib x.txt:=by
 induction h with
 | num hn=>rw[Ei];exact Blj hn
 | name hn=>rw[Ei];exact Afq hn
 | idx hn _ ih=>rw[Ei];exact Js (Afq hn) (Hl AG (Js ih (Hl AG Vw)))
 | un ho _ ih=>
  rw[Ei]
  rcases ho with rfl | rfl<;>exact Js (A00 _) (Am4 ih)
 | @bin op z t a b ho _ _ qj qk=>
  rw[Ei];simp only[Dr,Aw,B0];rw[if_neg AA,if_neg AA];exact Js (Am4 qj) (Hl AG (Js (A00 _) (Hl AG (Am4 qk))))
def Bf6{s:Sp}(h:ShS s):Ib (Cp s):=by
 cases h with
 | mk h1 h2 h3 h4 h5 h6 h7 h8 h9 h10 h11 qq h13 h14=>
 have hn:Ib s.nm:=by
  cases hb:F8 s.op
  .exact Afq (h3 hb)
  .rw[h2 hb];exact Vw
 have hi:Ib (E6 s.idx):=by
  cases hx:s.idx with
  | nil=>exact Vw
  | cons a r=>exact Hl AG (Js (Agt (h8 a (by rw[hx];exact B4))) (Hl AG Vw))
 have hv:∀ n:Int,(n=1\/n=2\/n=3\/n=14)->Ek n=true:=by
  rintro n (rfl | rfl | rfl | rfl)<;>rfl
 unfold Cp
 split
 .rename_i e;exact Js hn (Js hi (Hl AG (Hl AG (Hl AG (Agt (h9 (hv _ (.inl e))))))))
 split
 .rename_i e;exact Js (Aa3 _) (Hl AG (Agt (h9 (hv _ AA))))
 split
 .exact Aa3 _
 split
 .rename_i e;exact Js (Aa3 _) (Hl AG (Js hn (Hl AG (Agt (h9 (hv _ AA))))))
 split
 .rename_i e;exact Js (Aa3 _) (Hl AG (Js hn (Hl AG (Afq (h4 e)))))
 .exact Js (Aa3 _) (Hl AG hn)
def Aez{l:List UInt8}:∀ {L:List Sp},l∈Sp.hdss L->∃ x∈L,l∈x.hds
 | x::L,h=>by
  rw[Sp.hdss]at h;rcases Cu.1 h with h | h
  .exact⟨x,B4,h⟩
  .obtain⟨y,h1,h2⟩:=Aez h;exact⟨y,Cb _ h1,h2⟩
def Blk{s:Sp}(h:ShS s):∀ l∈s.hds,Ib l/\1<=l.length:=by
 induction h with
 | @mk s h1 h2 h3 h4 h5 h6 h7 h8 h9 h10 h11 qq h13 h14 ihb ihe=>
 have hh:=Bf6 (.mk h1 h2 h3 h4 h5 h6 h7 h8 h9 h10 h11 qq h13 h14);intro l hl;rw[show s.hds=Ds s::(Sp.hdss s.body++Sp.hdss s.els) by cases s;rw[Sp.hds]]at hl;rcases Bp.1 hl with rfl | hl
 .unfold Ds
  split
  .exact⟨Js hh (Hl AG (Hl AG Vw)),by simp⟩
  .exact⟨Js hh (Hl AG Vw),by simp⟩
 .rcases Cu.1 hl with hl | hl
  .obtain⟨x,hx,hl⟩:=Aez hl;exact ihb x hx l hl
  .obtain⟨x,hx,hl⟩:=Aez hl;exact ihe x hx l hl
def Bf7{l:List UInt8}(h:Ib l)(h1:1<=l.length)(h2:l.length<=1000):Of l=true:=by
 unfold Of;rw[decide_eq_true h1,decide_eq_true h2];simp only[W3,Bu,Ai,decide_eq_true_eq];exact h
theorem Agu{p:UInt8->Bool}:∀ {l:List UInt8} {x:UInt8},x∈l.takeWhile p->p x=true
 | [],x,h=>by cases h
 | c::l,x,h=>by
  rw[Wu]at h
  split at h
  .rename_i hc;rcases Bp.1 h with rfl | h
   .exact hc
   .exact Agu h
  grind
def D5(ts:List Tk):Prop:=∀ t∈ts,(t.kind=1->Bm t.text=true)/\(t.kind=2->0<=J1 t.text/\J1 t.text<=9223372036854775807)
theorem Di{a b:List Tk}(h:D5 b)(hs:a <:+ b):D5 a:=fun t ht=>h t (hs.subset ht)
def wt(C:Nat)(ts:List Tk):Nat:=C*ts.length
def Vr(C:Nat)(t:Tk)(ts:List Tk):wt C (t::ts)=C+wt C ts:=by grind[wt]
theorem N2{s:List UInt8}{ts:List Tk}{C:Nat}(h:As s ts=true):ts.tail <:+ ts/\ts.tail.length+1=ts.length/\wt C ts=C+wt C ts.tail:=by
 cases ts with
 | nil=>cases h
 | cons t r=>exact⟨Uz t r,rfl,Vr C t r⟩
def Bf8{lvl:Nat}{ts:List Tk}{C:Nat}(h:H8 lvl ts≠0):ts.tail <:+ ts/\ts.tail.length+1=ts.length/\wt C ts=C+wt C ts.tail:=by
 cases ts with
 | nil=>exact absurd rfl h
 | cons t r=>exact⟨Uz t r,rfl,Vr C t r⟩
theorem Wc{l:List UInt8}(h:Bm l=true):l.length<=12:=by
 obtain⟨c,cs,rfl,-,-,h,-⟩:=Akn h;exact h
theorem A65{op:Int}(h:6<=op/\op<=18)(x y:Xp):(J3 op x y).txt.length<=x.txt.length+y.txt.length+8:=by
 unfold J3;rw[Awu h];have h1:=(O7 (x.op,x.txt) (Gi op)).2;have h2:=(O7 (y.op,y.txt) (Be op+1)).2
 grind[Afc]
def Ba4{op:Int}(h:op=4\/op=5)(x:Xp):(Pu op x).txt.length<=x.txt.length+4:=by
 unfold Pu;rw[(Ayt h).1];have h1:=(O7 (x.op,x.txt) 6).2
 grind[Afc]
def XQ(C:Nat)(ts:List Tk)(x:Xp)(r:List Tk):Prop:=ShE x/\r <:+ ts/\r.length<ts.length/\x.txt.length+wt C r<=wt C ts
def Xo{C:Nat}(hC:25<=C):∀ n,(∀ lvl ts x r,D5 ts->pe n lvl ts=some (x,r)->XQ C ts x r) /\
  (∀ lvl x0 ts x r,D5 ts->ShE x0->lp n lvl x0 ts=some (x,r)->ShE x/\r <:+ ts/\r.length<=ts.length/\x.txt.length+wt C r<=x0.txt.length+wt C ts) /\
  (∀ ts x r,D5 ts->pu n ts=some (x,r)->XQ C ts x r)/\(∀ ts x r,D5 ts->pp n ts=some (x,r)->XQ C ts x r)
 | 0=>⟨fun _ _ _ _ _ h=>by grind[pe],fun _ _ _ _ _ _ _ h=>by grind[lp],fun _ _ _ _ h=>by grind[pu],fun _ _ _ _ h=>by grind[pp]⟩
 | n+1=>by
  obtain⟨qj,qk,qp,qJ⟩:=Xo hC n;refine⟨fun lvl ts x r ht h=>?_,fun lvl x0 ts x r ht h0 h=>?_,fun ts x r ht h=>?_,fun ts x r ht h=>?_⟩
  .rw[pe]at h
   split at h
   .grind
   .split at h
    .cases h
    .rename_i y q hy;obtain⟨a1,a2,a3,a4⟩:=qj _ _ _ _ ht hy;obtain⟨b1,b2,b3,b4⟩:=qk _ _ _ _ _ (Di ht a2) a1 h;exact⟨b1,b2.trans a2,by omega,by omega⟩
  .rw[lp]at h
   split at h
   .grind
   .rename_i ho;obtain⟨t1,t2,t3⟩:=Bf8 (C:=C) ho;obtain⟨o1,-,-⟩:=A9i ho
    split at h
    .cases h
    .rename_i y q hy;obtain⟨a1,a2,a3,a4⟩:=qj _ _ _ _ (Di ht t1) hy;have hs:ShE (J3 (H8 lvl ts) x0 y):=.bin o1 h0 a1
     grind[A65,Di]
  .have un:∀ (op:Int),op=4\/op=5->∀ s,As s ts=true->(match pu n ts.tail with
     | none=>none
     | some (x,r)=>some (Pu op x,r))=some (x,r)->XQ C ts x r:=fun op ho s hs h=>by
    obtain⟨t1,t2,t3⟩:=N2 (C:=C) hs
    split at h
    .cases h
    .rename_i y q hy;cases h;obtain⟨a1,a2,a3,a4⟩:=qp _ _ _ (Di ht t1) hy;have:=Ba4 ho y;exact⟨.un ho a1,a2.trans t1,by omega,by omega⟩
   rw[pu]at h
   split at h
   .rename_i hs;exact un 4 (.inl rfl) _ hs h
   .split at h
    .rename_i hs;exact un 5 (.inr rfl) _ hs h
    grind
  .cases ts with
   | nil=>grind[pp]
   | cons t ts=>
    have hw:=Vr C t ts;have qa:=Uz t ts;have qc:=Di ht qa;obtain⟨k1,k2⟩:=ht t B4;rw[pp]at h
    split at h
    .rename_i hk;cases h;refine⟨.num (k2 hk),qa,by simp,?_⟩;have:=Xv (J1 t.text);rw[Ei];simp only[Dr,if_true];omega
    .split at h
     .rename_i hk;have hn:=k1 hk;have qI:=Wc hn
      split at h
      .rename_i hs;obtain⟨t1,t2,t3⟩:=N2 (C:=C) hs
       split at h
       .cases h
       .rename_i y q hy;obtain⟨a1,a2,a3,a4⟩:=qj _ _ _ _ (Di qc t1) hy
        split at h
        .rename_i qo;obtain⟨u1,u2,u3⟩:=N2 (C:=C) qo;cases h;refine⟨.idx hn a1,((u1.trans a2).trans t1).trans qa,by grind,?_⟩
         grind[Ei,Dr]
        grind
      .cases h;refine⟨.name hn,qa,by simp,?_⟩;rw[Ei];simp only[Dr,show((2:Int)=1)=False from eq_false AA,if_false,if_true];omega
     .split at h
      .split at h
       .cases h
       .rename_i y q hy;obtain⟨a1,a2,a3,a4⟩:=qj _ _ _ _ qc hy
        split at h
        .rename_i qo;obtain⟨u1,u2,u3⟩:=N2 (C:=C) qo;cases h;exact⟨a1,(u1.trans a2).trans qa,by grind,by omega⟩
        grind
      grind
/-! scanning gives right tokens -/
def Xz:∀ (n:Nat) (ln:Int) (l:List UInt8) (ts:List Tk),C0 n ln l=some ts->D5 ts
 | n,ln,[],ts,h=>by
  have:C0 n ln []=some []:=by cases n<;>rfl
  rw[this]at h;cases h;intro t ht;cases ht
 | 0,ln,c::r,ts,h=>by cases h
 | n+1,ln,c::r,ts,h=>by
  rw[C0]at h
  split at h
  .exact Xz n _ _ _ h
  .split at h
   .exact Xz n _ _ _ h
   .split at h
    .exact Xz n _ _ _ h
    .split at h
     .cases h
     .rename_i k w hf;simp only[Cf]at h;obtain⟨l,hl,rfl⟩:=h;intro t ht;rcases Bp.1 ht with rfl | ht
      .rw[Pz]at hf;simp only
       split at hf
       .rename_i hc
        split at hf
        .cases hf
        .rename_i qq;cases hf;refine⟨fun hk=>?_,fun hk=>?_⟩
         .split at hk
          .cases hk
          .rename_i qH;refine Aml (by simp[Ex]) AA (by grind) fun j hj=>?_
           have ql:∀ d∈Ex c r,H7 d=true:=fun d hd=>by
            rcases Bp.1 hd with rfl | hd
            .grind[Alo]
            grind[Agu]
           cases j with
           | zero=>
            have h1:K6 c.toNat=true:=hc
            grind[Jd,Ex]
           | succ j=>
            have hm:((Ex c r).getD (j+1) 0)∈Ex c r:=by rw[Ef,B9 hj];exact M4 _
            have hi:=ql _ hm;unfold H7 Lw at hi;unfold Jd
            grind
         omega
       .split at hf
        .rename_i hc
         split at hf
         .cases hf
         .split at hf
          .rename_i qn;cases hf;refine⟨(fun hk=>by cases hk),fun _=>?_⟩
           have hd:K9 (Eo c r):=fun d hd=>by
            rcases Bp.1 hd with rfl | hd
            .exact hc
            grind[Agu]
           rw[Aj2 hd]at qn;have hv:=of_decide_eq_true qn
           grind[Ak1,Eo]
          grind
        grind
      .exact Xz n _ _ _ hl t ht
/-! statements -/
def One(C:Nat)(ts r:List Tk):Prop:=r <:+ ts/\r.length+1=ts.length/\wt C ts=C+wt C r
def Au6(C:Nat)(t:Tk)(r:List Tk):One C (t::r) r:=⟨Uz t r,rfl,Vr C t r⟩
def Vb{C:Nat}{ts r:List Tk}{nm:List UInt8}(ht:D5 ts)(h:C6 ts=some (nm,r)):Bm nm=true/\One C ts r:=by
 cases ts with
 | nil=>cases h
 | cons t ts=>
  unfold C6 at h;simp only at h
  split at h
  .rename_i hk;cases h;exact⟨(ht t B4).1 hk,Au6 C t _⟩
  grind
def M9{C:Nat}{s:List UInt8}{ts r:List Tk}(h:Dv s ts=some r):One C ts r:=by
 unfold Dv at h
 split at h
 .rename_i hs;cases h;obtain⟨h1,h2,h3⟩:=N2 (C:=C) hs;exact⟨h1,h2,h3⟩
 grind
def Ae0{C:Nat}{ts r:List Tk}{n:Int}(ht:D5 ts)(h:Hb ts=some (n,r)):(0<=n/\n<=9223372036854775807)/\One C ts r:=by
 cases ts with
 | nil=>cases h
 | cons t ts=>
  unfold Hb at h;simp only at h
  split at h
  .rename_i hk;cases h;exact⟨(ht t B4).2 hk,Au6 C t _⟩
  grind
def Aje:∀ {l:List (List UInt8 × Int)} {s:List UInt8} {v:Int},l.lookup s=some v->∃ a,(a,v)∈l
 | [],_,_,h=>by cases h
 | (a,w)::l,s,v,h=>by
  rw[Ail]at h
  split at h
  .grind
  .obtain⟨b,hb⟩:=Aje h;grind
def Au7(s:List UInt8):D7 s=0\/(2<=D7 s/\D7 s<=15):=by
 unfold D7
 cases h:wordTab.lookup s with
 | none=>grind
 | some v=>
  obtain⟨a,ha⟩:=Aje h;have:(wordTab.all fun p=>decide (2<=p.2/\p.2<=15))=true:=by decide
  grind
def Au8(s:List UInt8):G7 s=0\/(1<=G7 s/\G7 s<=6):=by
 unfold G7
 cases h:declTab.lookup s with
 | none=>grind
 | some v=>
  obtain⟨a,ha⟩:=Aje h;have:(declTab.all fun p=>decide (1<=p.2/\p.2<=6))=true:=by decide
  grind
def Oh(s:Sp):Nat:=if Ek s.op then s.ex.txt.length else 0
def Bf9(op:Int):(Co op).length<=11:=by
 unfold Co
 split<;>simp
def Bga(s:Sp):(Cp s).length<=20+s.nm.length+s.arg.length+(E6 s.idx).length+Oh s:=by
 have hw:=Bf9 s.op;unfold Cp Oh Ek
 grind
def Bll(d:Nat)(s:Sp):(s.txt d).length<=6*d+40+s.nm.length+s.arg.length+(E6 s.idx).length+Oh s+(if Bv s.op then(Sp.txts (d+1) s.body).length+(Sp.txts (d+1) s.els).length else 0):=by
 have hh:=Bga s;rw[N1]
 have h5:(if s.els.isEmpty=true then [] else Ee d++125::32::101::108::115::101::32::123::10::Sp.txts (d+1) s.els).length<=2*d+9+(Sp.txts (d+1) s.els).length:=by
  split
  .simp
  .simp[Lk];omega
 cases Bv s.op
 .simp only[Aq,Lk,Hg,if_false,An,Dc];omega
 .simp only[Aq,Lk,if_true,An,Dc];omega
def SQ(M C:Nat)(ts:List Tk)(s:Sp)(r:List Tk):Prop:=ShS s/\r <:+ ts/\r.length<ts.length/\s.sz+r.length<=ts.length/\∀ d,d+ts.length<=M->(s.txt d).length+wt C r<=wt C ts
def LQ(M C:Nat)(ts:List Tk)(l:List Sp)(r:List Tk):Prop:=(∀ s∈l,ShS s)/\r <:+ ts/\r.length<ts.length/\Sp.szs l+r.length<ts.length/\∀ d,d+ts.length<=M->(Sp.txts d l).length+wt C r<=wt C ts
def Ug{M C:Nat}(hC:100+8*M<=C){ts r:List Tk}{s:Sp}(hs:ShS s)(h1:r <:+ ts)(h2:r.length<ts.length)(h3:Sp.szs s.body+Sp.szs s.els+1+r.length<=ts.length)
  (h4:∀ d,d+ts.length<=M->C+(E6 s.idx).length+Oh s+((Sp.txts (d+1) s.body).length+(Sp.txts (d+1) s.els).length)+wt C r<=wt C ts):SQ M C ts s r:=by
 refine⟨hs,h1,h2,by grind[Mc],fun d hd=>?_⟩;have h5:=h4 d hd;have h6:=Bll d s
 have h7:s.nm.length<=12/\s.arg.length<=12:=by
  cases hs with
  | mk a1 a2 a3 a4 a5 _ _ _ _ _ _ _ _ _=>
   constructor
   .cases hn:F8 s.op
    .grind[Wc]
    grind
   .by_cases ha:s.op=15
    .grind[Wc]
    grind
 grind
theorem A4k{M C:Nat}(hC:100+8*M<=C){n:Nat}{line:Int}{ts:List Tk}{s:Sp}{r:List Tk}(ht:D5 ts)(h:Sb n line ts=some (s,r)):SQ M C ts s r:=by
 unfold Sb at h
 split at h
 .cases h
 rename_i nm t1 hn;obtain⟨n1,n2,n3,n4⟩:=Vb (C:=C) ht hn;have qb:=Di ht n2
 split at h
 .cases h
 rename_i ix t2 hi
 have qB:ix.length<=1/\(∀ x∈ix,ShE x)/\t2 <:+ t1/\t2.length<=t1.length/\(E6 ix).length+wt C t2<=wt C t1:=by
  unfold Ach at hi
  split at hi
  .rename_i hs;obtain⟨u1,u2,u3⟩:=N2 (C:=C) hs
   split at hi
   .cases hi
   .rename_i x q hx;obtain⟨a1,a2,a3,a4⟩:=(Xo (C:=C) AA n).1 _ _ _ _ (Di qb u1) hx;simp only[Cf]at hi;obtain⟨q',hq,hi⟩:=hi;cases hi;obtain⟨b1,b2,b3⟩:=M9 (C:=C) hq
    grind[Akp]
  .simp_all [E6]
 obtain⟨i1,i2,i3,i4,i5⟩:=qB;have qm:=Di qb i3
 split at h
 .cases h
 rename_i t3 h3;obtain⟨c1,c2,c3⟩:=M9 (C:=C) h3;have qC:=Di qm c1
 split at h
 .cases h
 rename_i x t4 hx;obtain⟨a1,a2,a3,a4⟩:=(Xo (C:=C) AA n).1 _ _ _ _ qC hx;simp only[Cf]at h;obtain⟨t5,h5,h⟩:=h;cases h;obtain⟨d1,d2,d3⟩:=M9 (C:=C) h5;refine Ug hC (.mk ⟨by simp[Am],by simp[Am]⟩ (by simp[Am,F8]) (fun _=>n1) AL AL i1 AL i2 (fun _=>a1) (by simp[Am,Ek]) AL AL AL AL) ((((d1.trans a2).trans c1).trans i3).trans n2) AA (by grind[Am,Sp.szs]) fun d hd=>?_
 grind[Am,Oh,Sp.txts]
def Ae1{M C:Nat}(hC:100+8*M<=C):∀ n,(∀ ts s r,D5 ts->F4 n ts=some (s,r)->SQ M C ts s r)/\(∀ ts l r,D5 ts->Fb n ts=some (l,r)->LQ (M+1) C ts l r)/\(∀ ts l r,D5 ts->Ld n ts=some (l,r)->LQ M C ts l r)
 | 0=>⟨fun _ _ _ _ h=>by grind[F4],fun _ _ _ _ h=>by grind[Fb],fun _ _ _ _ h=>by grind[Ld]⟩
 | n+1=>by
  obtain⟨qj,qk,qp⟩:=Ae1 hC n;refine⟨fun ts s r ht h=>?_,fun ts l r ht h=>?_,fun ts l r ht h=>?_⟩
  .cases ts with
   | nil=>grind[F4]
   | cons t ts=>
    have hw:=Vr C t ts;have qa:=Uz t ts;have qc:=Di ht qa;rw[F4]at h
    split at h
    .grind[A4k]
    split at h
    rotate_left
    .cases h
    have hr:=Au7 t.text;generalize D7 t.text=w at h hr
    split at h
    .cases h
    split at h
    .rename_i qh
     split at h
     .cases h
     rename_i x t1 hx;obtain⟨a1,a2,a3,a4⟩:=(Xo (C:=C) AA n).1 _ _ _ _ qc hx;have qb:=Di qc a2
     split at h
     .cases h
     rename_i b t2 hb;obtain⟨b1,b2,b3,b4,b5⟩:=qk _ _ _ qb hb;have qm:=Di qb b2
     split at h
     .rename_i qF;obtain⟨rfl,hs⟩:=qF;obtain⟨u1,u2,u3⟩:=N2 (C:=C) hs
      split at h
      .cases h
      rename_i e t3 he;obtain⟨e1,e2,e3,e4,e5⟩:=qk _ _ _ (Di qm u1) he;cases h;refine Ug hC (.mk ⟨by simp[Am],by simp[Am]⟩ AL (by simp[Am,F8]) AL AL AL AL AL (fun _=>a1) (by simp[Am,Ek]) (by simp[Am,Bv]) AL b1 e1) ((((e2.trans u1).trans b2).trans a2).trans qa) (by grind) (by grind) fun d hd=>?_
      grind[Am,Oh,E6]
     .cases h;refine Ug hC (.mk (by grind[Am]) AL (by rcases qh with rfl | rfl<;>simp[Am,F8]) (by grind[Am]) AL AL AL AL (fun _=>a1) (by rcases qh with rfl | rfl<;>simp[Am,Ek]) (by rcases qh with rfl | rfl<;>simp[Am,Bv]) AL b1 AL) ((b2.trans a2).trans qa) (by grind) (by grind[Am,Sp.szs]) fun d hd=>?_
      rw[An]at hd;have:=b5 (d+1) AA
      have:Ek w=true:=by rcases qh with rfl | rfl<;>rfl
      simp only[Am,Oh,this,E6,Dc,if_true,Sp.txts];omega
    .split at h
     .rename_i qi
      split at h
      .cases h
      rename_i b t2 hb;obtain⟨b1,b2,b3,b4,b5⟩:=qk _ _ _ qc hb;cases h;refine Ug hC (.mk (by grind[Am]) AL (by rcases qi with rfl | rfl<;>simp[Am,F8]) (by grind[Am]) AL AL AL AL (by rcases qi with rfl | rfl<;>simp[Am,Ek]) (fun _=>⟨rfl,rfl,rfl,rfl⟩) (by rcases qi with rfl | rfl<;>simp[Am,Bv]) AL b1 AL) (b2.trans qa) (by grind) (by grind[Am,Sp.szs]) fun d hd=>?_
      rw[An]at hd;have:=b5 (d+1) AA
      have:Ek w=false:=by rcases qi with rfl | rfl<;>rfl
      simp only[Am,Oh,this,E6,Dc,Hg,if_false,Sp.txts];omega
     .split at h
      .cases h
      rename_i nm t1 hn;obtain⟨n1,n2,n3,n4⟩:=Vb (C:=C) qc hn;have qb:=Di qc n2
      split at h
      .rename_i qd
       split at h
       .cases h
       rename_i b t2 hb;obtain⟨b1,b2,b3,b4,b5⟩:=qk _ _ _ qb hb;cases h;refine Ug hC (.mk (by grind[Am]) (by rcases qd with rfl | rfl | rfl<;>simp[Am,F8]) (fun _=>n1) (by grind[Am]) AL AL AL AL (by rcases qd with rfl | rfl | rfl<;>simp[Am,Ek]) (fun _=>⟨rfl,rfl,rfl,rfl⟩) (by rcases qd with rfl | rfl | rfl<;>simp[Am,Bv]) AL b1 AL) ((b2.trans n2).trans qa) (by grind) (by grind[Am,Sp.szs]) fun d hd=>?_
       rw[An]at hd;have:=b5 (d+1) AA
       have:Ek w=false:=by rcases qd with rfl | rfl | rfl<;>rfl
       simp only[Am,Oh,this,E6,Dc,Hg,if_false,Sp.txts];omega
      .split at h
       .rename_i qu;subst qu
        split at h
        .cases h
        rename_i x t2 hx;obtain⟨a1,a2,a3,a4⟩:=(Xo (C:=C) AA n).1 _ _ _ _ qb hx;simp only[Cf]at h;obtain⟨t3,h3,h⟩:=h;cases h;obtain⟨d1,d2,d3⟩:=M9 (C:=C) h3;refine Ug hC (.mk ⟨by simp[Am],by simp[Am]⟩ (by simp[Am,F8]) (fun _=>n1) AL AL AL AL AL (fun _=>a1) (by simp[Am,Ek]) AL AL AL AL) (((d1.trans a2).trans n2).trans qa) (by grind) (by grind[Am,Sp.szs]) fun d hd=>?_
        grind[Am,Oh,E6,Sp.txts]
       .split at h
        .rename_i qv;subst qv
         split at h
         .cases h
         rename_i ar t2 ha;obtain⟨a1,a2,a3,a4⟩:=Vb (C:=C) qb ha;simp only[Cf]at h;obtain⟨t3,h3,h⟩:=h;cases h;obtain⟨d1,d2,d3⟩:=M9 (C:=C) h3;refine Ug hC (.mk ⟨by simp[Am],by simp[Am]⟩ (by simp[Am,F8]) (fun _=>n1) (fun _=>a1) AL AL AL AL (by simp[Am,Ek]) (fun _=>⟨rfl,rfl,rfl,rfl⟩) AL AL AL AL) (((d1.trans a2).trans n2).trans qa) (by grind) (by grind[Am,Sp.szs]) fun d hd=>?_
         grind[Am,Oh,Ek,E6,Sp.txts]
        .simp only[Cf]at h;obtain⟨t3,h3,h⟩:=h;cases h;obtain⟨d1,d2,d3⟩:=M9 (C:=C) h3;have qw:w=9\/w=10\/w=11\/w=12\/w=13:=by omega
         refine Ug hC (.mk (by grind[Am]) (by rcases qw with rfl | rfl | rfl | rfl | rfl<;>simp[Am,F8]) (fun _=>n1) (by grind[Am]) AL AL AL AL (by rcases qw with rfl | rfl | rfl | rfl | rfl<;>simp[Am,Ek]) (fun _=>⟨rfl,rfl,rfl,rfl⟩) AL AL AL AL) ((d1.trans n2).trans qa) (by grind) (by grind[Am,Sp.szs]) fun d hd=>?_
         have:Ek w=false:=by rcases qw with rfl | rfl | rfl | rfl | rfl<;>rfl
         simp only[Am,Oh,this,E6,Dc,Hg,if_false,Sp.txts];omega
  .rw[Fb]at h
   split at h
   .rename_i hs;obtain⟨u1,u2,u3⟩:=N2 (C:=C) hs;obtain⟨b1,b2,b3,b4,b5⟩:=qp _ _ _ (Di ht u1) h;exact⟨b1,b2.trans u1,by omega,by omega,fun d hd=>by grind⟩
   grind
  .rw[Ld]at h
   split at h
   .rename_i hs;obtain⟨u1,u2,u3⟩:=N2 (C:=C) hs;cases h;exact⟨by simp,u1,by omega,by grind[Sp.szs],fun d hd=>by grind[Sp.txts]⟩
   .split at h
    .cases h
    rename_i s t1 hs;obtain⟨a1,a2,a3,a4,a5⟩:=qj _ _ _ ht hs
    split at h
    .cases h
    rename_i l' t2 hl;obtain⟨b1,b2,b3,b4,b5⟩:=qp _ _ _ (Di ht a2) hl;cases h;refine⟨fun x hx=>?_,b2.trans a2,by omega,by grind[Sp.szs],fun d hd=>?_⟩
    .grind
    grind[Oz]
def Sl(C:Nat)(ts r:List Tk):Prop:=r <:+ ts/\r.length<=ts.length/\wt C r<=wt C ts
theorem Qk{C:Nat}{ts r:List Tk}(h:One C ts r):Sl C ts r:=⟨h.1,by have:=h.2.1;omega,by have:=h.2.2;omega⟩
theorem Nv{C:Nat}{a b c:List Tk}(h:Sl C a b)(h':Sl C b c):Sl C a c:=⟨h'.1.trans h.1,C8 h'.2.1 h.2.1,C8 h'.2.2 h.2.2⟩
theorem Au9{C:Nat}(a:List Tk):Sl C a a:=⟨List.suffix_refl _,Aj _,Aj _⟩
def An1{s:List UInt8}{ts:List Tk}(C:Nat)(h:As s ts=true):Sl C ts ts.tail:=by
 obtain⟨h1,h2,h3⟩:=N2 (C:=C) h;exact⟨h1,by omega,by omega⟩
def Ba5{C:Nat}{ts r:List Tk}{n:Int}(ht:D5 ts)(h:Ts ts=some (n,r)):(0<=n/\n<=9223372036854775807)/\Sl C ts r:=by
 unfold Ts at h
 split at h
 .rename_i hs;have u:=An1 C hs
  split at h
  .cases h
  rename_i m q hq;obtain⟨n1,n2⟩:=Ae0 (C:=C) (Di ht u.1) hq
  split at h
  .cases h
  simp only[Cf]at h;obtain⟨t3,h3,h⟩:=h;cases h;exact⟨n1,Nv (Nv u (Qk n2)) (Qk (M9 h3))⟩
 grind[Au9]
def Ava{C:Nat}{ts r:List Tk}{n:Int}(ht:D5 ts)(h:Qr ts=some (n,r)):(-9223372036854775808<n/\n<=9223372036854775807)/\Sl C ts r:=by
 unfold Qr at h
 split at h
 .rename_i hs;have u:=An1 C hs
  split at h
  .rename_i qo;have u2:=An1 C qo;simp only[Cf]at h;obtain⟨p,hp,h⟩:=h;obtain⟨m,q⟩:=p;cases h;obtain⟨n1,n2⟩:=Ae0 (C:=C) (Di (Di ht u.1) u2.1) hp
   grind[Nv,Qk]
  .obtain⟨n1,n2⟩:=Ae0 (C:=C) (Di ht u.1) h
   grind[Nv,Qk]
 grind[Au9]
def DQ(C:Nat)(ts:List Tk)(d:Dp)(r:List Tk):Prop:=ShD d/\r <:+ ts/\r.length<ts.length/\(De d).length+2+wt C r<=wt C ts
def Ahi{C:Nat}(hC:100<=C){t:Tk}{ts r:List Tk}{d:Dp}(h:ShD d)(hl:Sl C ts r):DQ C (t::ts) d r:=by
 have h1:=Wc h.nm
 have h2:d.on.length<=12:=by
  by_cases hk:d.kind=5
  .exact Wc (h.on.1 hk)
  .rw[h.on.2 hk];grind
 have h3:=A1y h1 h2;have h4:=Vr C t ts;exact⟨h,hl.1.trans (Uz t ts),by have:=hl.2.1;grind,by have:=hl.2.2;omega⟩
def Ap1{C:Nat}(hC:100<=C){ts r:List Tk}{d:Dp}(ht:D5 ts)(hd:N4 ts=true)(h:R3 ts=some (d,r)):DQ C ts d r:=by
 cases ts with
 | nil=>cases h
 | cons t ts=>
  have hk:1<=G7 t.text/\G7 t.text<=6:=by
   simp only[N4,Ai,bne_iff_ne]at hd;rcases Au8 t.text with h | h
   .omega
   .exact h
  have qc:=Di ht (Uz t ts);rw[R3]at h;generalize G7 t.text=w at h hk
  split at h
  .cases h
  rename_i nm t1 hn;obtain⟨n1,n2⟩:=Vb (C:=C) qc hn;have n2:=Qk n2;have qb:=Di qc n2.1
  split at h
  .split at h
   .cases h
   rename_i sz t2 hs;obtain⟨s1,s2⟩:=Ba5 (C:=C) qb hs
   split at h
   .cases h
   rename_i i t3 hi;obtain⟨i1,i2⟩:=Ava (C:=C) (Di qb s2.1) hi;simp only[Cf]at h;obtain⟨t4,h4,h⟩:=h;cases h;exact Ahi hC ⟨by simp,n1,by grind,⟨i1.1,i1.2,by simp⟩,by simp⟩ (Nv (Nv (Nv n2 s2) i2) (Qk (M9 h4)))
  split at h
  .split at h
   .cases h
   rename_i i t3 hi;obtain⟨i1,i2⟩:=Ava (C:=C) qb hi;simp only[Cf]at h;obtain⟨t4,h4,h⟩:=h;cases h;exact Ahi hC ⟨by simp,n1,by simp,⟨i1.1,i1.2,by simp⟩,by simp⟩ (Nv (Nv n2 i2) (Qk (M9 h4)))
  split at h
  .split at h
   .cases h
   rename_i on t3 hi;obtain⟨i1,i2⟩:=Vb (C:=C) qb hi;simp only[Cf]at h;obtain⟨t4,h4,h⟩:=h;cases h;exact Ahi hC ⟨by simp,n1,by simp,by simp,by grind⟩ (Nv (Nv n2 (Qk i2)) (Qk (M9 h4)))
  .rename_i q1 q2 q5;simp only[Cf]at h;obtain⟨t4,h4,h⟩:=h;cases h;exact Ahi hC ⟨hk,n1,⟨by simp,by simp,fun _=>rfl⟩,⟨by simp,by simp,fun _ _=>rfl⟩,fun h=>absurd h q5,fun _=>rfl⟩ (Nv n2 (Qk (M9 h4)))
def Aps{C:Nat}(hC:100<=C):∀ (n:Nat) (ts:List Tk) (l:List Dp) (r:List Tk),D5 ts->Lo n ts=some (l,r)->(∀ d∈l,ShD d)/\r <:+ ts/\((l.map fun d=>De d++[59,10]).flatten).length+wt C r<=wt C ts
 | 0,ts,l,r,ht,h=>by cases h
 | n+1,ts,l,r,ht,h=>by
  rw[Lo]at h
  split at h
  .rename_i hd
   split at h
   .cases h
   rename_i d q hq;obtain⟨d1,d2,d3,d4⟩:=Ap1 hC ht hd hq
   split at h
   .cases h
   rename_i l' q' qt;obtain⟨e1,e2,e3⟩:=Aps hC n _ _ _ (Di ht d2) qt
   grind
  grind
def Aqv{C:Nat}(hC:100<=C):∀ (n:Nat) (ts:List Tk) (l:List (List UInt8)) (r:List Tk),D5 ts->Lx n ts=some (l,r)->(∀ s∈l,Bm s=true)/\r <:+ ts/\r.length<ts.length/\(En l).length+wt C r<=wt C ts
 | 0,ts,l,r,ht,h=>by cases h
 | n+1,ts,l,r,ht,h=>by
  rw[Lx]at h
  split at h
  .cases h
  rename_i nm t1 hn;obtain⟨n1,n2,n3,n4⟩:=Vb (C:=C) ht hn;have n5:=Wc n1
  split at h
  .rename_i hs;obtain⟨u1,u2,u3⟩:=N2 (C:=C) hs
   split at h
   .cases h
   rename_i l' q hq;obtain⟨e1,e2,e3,e4⟩:=Aqv hC n _ _ _ (Di (Di ht n2) u1) hq;cases h;have:=Ary nm l'
   grind
  .simp only[Cf]at h;obtain⟨t4,h4,h⟩:=h;cases h;obtain⟨d1,d2,d3⟩:=M9 (C:=C) h4
   grind[En]
def ThQ(M C:Nat)(ts:List Tk)(t:Tp)(r:List Tk):Prop:=Bm t.nm=true/\(∀ s∈t.locals,Bm s=true)/\(∀ s∈t.body,ShS s)/\r <:+ ts/\r.length<ts.length/\Sp.szs t.body<=ts.length/\(D9 t).length+wt C r<=wt C ts
def Aqw{M C:Nat}(hC:100+8*M<=C){n:Nat}{ts r:List Tk}{t:Tp}(ht:D5 ts)(hM:ts.length<=M)(h:Sc n ts=some (t,r)):ThQ M C ts t r:=by
 cases ts with
 | nil=>cases h
 | cons t0 ts=>
  have hw:=Vr C t0 ts;have qa:=Uz t0 ts;have qc:=Di ht qa;rw[An]at hM;rw[Sc]at h
  split at h
  .cases h
  rename_i nm t1 hn;obtain⟨n1,n2,n3,n4⟩:=Vb (C:=C) qc hn;have n5:=Wc n1;have qb:=Di qc n2
  split at h
  .cases h
  rename_i t2 h2;obtain⟨c1,c2,c3⟩:=M9 (C:=C) h2;have qm:=Di qb c1
  split at h
  .cases h
  rename_i l t3 hl
  have qr:(∀ s∈l,Bm s=true)/\t3 <:+ t2/\t3.length<=t2.length/\(En l).length+wt C t3<=wt C t2:=by
   unfold Abz at hl
   split at hl
   .grind[N2,En]
   .obtain⟨e1,e2,e3,e4⟩:=Aqv (C:=C) AA n _ _ _ qm hl
    grind
  obtain⟨l1,l2,l3,l4⟩:=qr
  split at h
  .cases h
  rename_i b t4 hb;obtain⟨b1,b2,b3,b4,b5⟩:=(Ae1 hC n).2.1 _ _ _ (Di qm l2) hb;cases h;have:=b5 1 AA;refine⟨n1,l1,b1,(((b2.trans l2).trans c1).trans n2).trans qa,by grind,by grind,?_⟩
  grind[D9,List.length_cons]
def Ap2{M C:Nat}(hC:100+8*M<=C)(m:Nat):∀ (n:Nat) (ts:List Tk) (l:List Tp) (r:List Tk),D5 ts->ts.length<=M->Lt m n ts=some (l,r) ->
  (∀ t∈l,Bm t.nm=true)/\(∀ t∈l,∀ s∈t.locals,Bm s=true)/\(∀ t∈l,∀ s∈t.body,ShS s)/\(∀ t∈l,Sp.szs t.body<=M)/\((l.map D9).flatten).length+wt C r<=wt C ts
 | 0,ts,l,r,ht,hM,h=>by cases h
 | n+1,ts,l,r,ht,hM,h=>by
  rw[Lt]at h
  split at h
  .split at h
   .cases h
   rename_i t q hq;obtain⟨d1,d2,d3,d4,d5,d6,d7⟩:=Aqw hC ht hM hq
   split at h
   .cases h
   rename_i l' q' qt;obtain⟨e1,e2,e3,e4,e5⟩:=Ap2 hC m n _ _ _ (Di ht d4) AA qt
   grind
  grind
def Xq:∀ (n:Nat) (ln:Int) (l:List UInt8) (ts:List Tk),C0 n ln l=some ts->ts.length<=l.length
 | n,ln,[],ts,h=>by
  simp_all [C0]
 | 0,ln,c::r,ts,h=>by cases h
 | n+1,ln,c::r,ts,h=>by
  rw[C0]at h
  split at h
  .have:=Xq n _ _ _ h
   grind
  .split at h
   .have:=Xq n _ _ _ h
    grind
   .split at h
    .have h1:=Xq n _ _ _ h
     grind[Aat]
    .split at h
     .cases h
     .rename_i k w hf;simp only[Cf]at h;obtain⟨l,hl,rfl⟩:=h;obtain⟨h1,q,h2⟩:=Zt hf;have h3:=Xq n _ _ _ hl
      grind
def Ap3{s:List UInt8}{p:Gp}(h:Jm s=some p):ShG p/\(Ff p).length<=1000000000/\∀ t∈p.thrs,Sp.szs t.body<=4096:=by
 unfold Jm at h
 split at h
 .cases h
 rename_i hs
 split at h
 .cases h
 rename_i ts ht;have hl:=Xq _ _ _ _ ht;have qn:=Xz _ _ _ _ ht
 split at h
 rotate_left
 .cases h
 rename_i p' hp;cases h;unfold V5 at hp
 split at hp
 .cases hp
 rename_i ds r hd;obtain⟨d1,d2,d3⟩:=Aps (C:=100+8*4096) AA _ _ _ _ qn hd
 split at hp
 .cases hp
 rename_i l r2 qD;obtain⟨t1,t2,t3,t4,t5⟩:=Ap2 (M:=4096) (C:=100+8*4096) (Aj _) _ _ _ _ _ (Di qn d2) (by grind) qD
 split at hp
 .cases hp
 rename_i qg;cases hp;refine⟨⟨d1,t1,t2,t3,by grind⟩,?_,t4⟩
 grind[Ff,wt]
/-! programs that are equal apart from lines have one text -/
def Avb:∀ {l l':List Xp},Jn l l'=true->E6 l=E6 l'
 | [],[],_=>rfl
 | x::l,y::l',h=>by
  simp only[Jn,Ai]at h;simp only[E6,(Aea x y h.1).2.2]
 | [],_::_,h=>by cases h
 | _::_,[],h=>by cases h
mutual
theorem Bgb:∀ (s s':Sp),Tu s s'=true->∀ d,s.txt d=s'.txt d
 | ⟨op,line,nm,arg,iz,it,idx,ex,bz,bt,body,ez,et,els⟩,⟨op',line',nm',arg',iz',it',idx',ex',bz',bt',body',ez',et',els'⟩,h,d=>by
  simp only[Tu,Ai,beq_iff_eq]at h;obtain⟨rfl,rfl,rfl,hx,hi,hb,he⟩:=h;have h1:=(Aea ex ex' hx).2.2;have h2:=Avb hi;have h3:=Ak2 body body' hb (d+1);have h4:=Ak2 els els' he (d+1)
  simp_all [N1,Cp]
theorem Ak2:∀ (l l':List Sp),Mb l l'=true->∀ d,Sp.txts d l=Sp.txts d l'/\l.isEmpty=l'.isEmpty
 | [],[],_,d=>⟨rfl,rfl⟩
 | x::l,y::l',h,d=>by
  simp only[Mb,Ai]at h;rw[Oz,Oz,Bgb x y h.1 d,(Ak2 l l' h.2 d).1]
  grind
 | [],_::_,h,_=>by cases h
 | _::_,[],h,_=>by cases h
end
def RO(z:Bool)(t:Nat)(A:List Tk)(p:Nat):Ob:=.row [SL z t (A.map Tk.row),iV (p:Int)] 74 0 0
def Afr(z:Bool)(t:Nat)(A:List Tk)(p:Nat):(RO z t A p).refs=[]:=by
 unfold RO SL
 split<;>rfl
structure RdS (s:St) (m:Nat) (z:Bool) (t:Nat) (A:List Tk) (S:Nat->St):Prop where
 low:m<s.length
 eq:∀ p,S p=s.set m (RO z t A p)
 len:∀ p,(S p).length=s.length
 get:∀ (p:Nat) (l:St),(S p++l)[m]?=some (.row [SL z t (A.map Tk.row),iV (p:Int)] 74 0 0)
 get0:∀ (p:Nat),(S p)[m]?=some (.row [SL z t (A.map Tk.row),iV (p:Int)] 74 0 0)
 set:∀ (p q:Nat) (l:St),(S p++l).set m (.row [SL z t (A.map Tk.row),iV (q:Int)] 74 0 0)=S q++l
 set0:∀ (p q:Nat),(S p).set m (.row [SL z t (A.map Tk.row),iV (q:Int)] 74 0 0)=S q
 n0:∀ (p:Nat) (a:Ob) (l:St),(S p++a::l)[s.length]?=some a
 n1:∀ (p:Nat) (a b:Ob) (l:St),(S p++a::b::l)[s.length+1]?=some b
 n2:∀ (p:Nat) (a b c:Ob) (l:St),(S p++a::b::c::l)[s.length+2]?=some c
 u0:∀ (p:Nat) (a x:Ob) (l:St),(S p++a::l).set s.length x=S p++x::l
 u1:∀ (p:Nat) (a b x:Ob) (l:St),(S p++a::b::l).set (s.length+1) x=S p++a::x::l
 u2:∀ (p:Nat) (a b c x:Ob) (l:St),(S p++a::b::c::l).set (s.length+2) x=S p++a::b::x::l
def Dn{s:St}{m:Nat}{z:Bool}{t:Nat}{A:List Tk}{S:Nat->St}(h:RdS s m z t A S):=And.intro h.len (And.intro h.get (And.intro h.get0 (And.intro h.set (And.intro h.set0 (And.intro h.n0 (And.intro h.n1 (And.intro h.n2 (And.intro h.u0 (And.intro h.u1 (h.u2))))))))))
def Axr{s:St}{m:Nat}(z:Bool)(t:Nat)(A:List Tk)(hm:m<s.length):RdS s m z t A (fun p=>s.set m (RO z t A p)):=by
 have hl:∀ p,(s.set m (RO z t A p)).length=s.length:=fun p=>by simp
 have hs:∀ p q,(s.set m (RO z t A p)).set m (RO z t A q)=s.set m (RO z t A q):=fun p q=>by simp_all
 refine⟨hm,fun _=>rfl,hl,fun p l=>?_,fun p=>?_,fun p q l=>?_,fun p q=>hs p q,fun p a l=>?_,fun p a b l=>?_,fun p a b c l=>?_,fun p a x l=>?_,fun p a b x l=>?_,fun p a b c x l=>?_⟩
 .exact By (Cr hm)
 .exact Cr hm
 .rw[Aie _ _ (by grind)];exact congrArg (·++l) (hs p q)
 .grind
 .grind
 .grind
 .simp_all
 .simp_all
 simp_all
def RT(f:Nat)(av:List V)(s:St)(m:Nat)(z:Bool)(t:Nat)(A:List Tk)(R:V->Nat->Prop):Prop:=∃ v p',Bw TT PT f (.ptr m 0 0::av) s v (s.set m (RO z t A p'))/\p'<=A.length/\R v p'
def Mn{z:Bool}{t:Nat}{A:List Tk}{f p m q:Nat}{res:List AR}{thr:Bool}{body:AC}{av:List V}{s:St}{R:V->Nat->Prop}(hT:TT f=some ⟨p,res,thr,body,none⟩)(hl:(V.ptr m 0 0::av).length=p)(hs:s[m]?=some (RO z t A q))
  (h:∀ S,RdS s m z t A S->W TT PT [.c body] (C4 0 (.ptr m 0 0::av)) (S q) (Hd fun e' σ1=>∃ v p' l,Cd e' σ1 res=some v/\(Ci v=true/\v.refs=[])/\σ1=S p'++l/\p'<=A.length/\R v p')):RT f av s m z t A R:=by
 have hm:=(Ao.1 hs).1;have h:=h _ (Axr z t A hm);rw[O8 hs]at h;obtain⟨e',σ1,hE,v,p',l,hr,⟨h1,h2⟩,rfl,h3,h4⟩:=h;have qE:(s.set m (RO z t A p')++l).take s.length=s.set m (RO z t A p'):=by rw[Aia AE,Ic AE]
 refine⟨v,p',?_,h3,h4⟩
 have:=Ev.fn hT rfl hl hE hr h1 (by rw[h2];rfl) (fun i ob hi ho=>by
  rw[Es (by grind)]at ho;by_cases hb:m=i
  .subst hb;rw[Cr hm]at ho;cases ho;exact .inr (by rw[Afr];rfl)
  grind)
 rw[qE]at this;exact⟨_,hT,rfl,this⟩
def Ch{S:Nat->St}{A:List Tk}{R:V->Nat->Prop}{e:Env}{res:List AR}{v:V}{p:Nat}{l:St}(hr:Cd e (S p++l) res=some v)(hv:Ci v=true/\v.refs=[])(hp:p<=A.length)(hR:R v p):
  ∃ v p' l',Cd e (S p++l) res=some v/\(Ci v=true/\v.refs=[])/\S p++l=S p'++l'/\p'<=A.length/\R v p':=⟨v,p,l,hr,hv,rfl,hp,hR⟩
def Aa4{S:Nat->St}{A:List Tk}{R:V->Nat->Prop}{e:Env}{res:List AR}{v:V}{p:Nat}(hr:Cd e (S p) res=some v)(hv:Ci v=true/\v.refs=[])(hp:p<=A.length)(hR:R v p):
  ∃ v p' l',Cd e (S p) res=some v/\(Ci v=true/\v.refs=[])/\S p=S p'++l'/\p'<=A.length/\R v p':=⟨v,p,[],hr,hv,(Cc _).symm,hp,hR⟩
def Ql{s:St}{m:Nat}{z:Bool}{t:Nat}{A:List Tk}{S:Nat->St}(hS:RdS s m z t A S){f p:Nat}{av:List V}{l:St}{R:V->Nat->Prop}(h:(S p++l)[m]?=some (RO z t A p)->RT f av (S p++l) m z t A R):∃ v q,Bw TT PT f (.ptr m 0 0::av) (S p++l) v (S q++l)/\q<=A.length/\R v q:=by
 obtain⟨v,q,h1,h2,h3⟩:=h (hS.get p l);have e:(S p++l).set m (RO z t A q)=S q++l:=hS.set p q l
 grind
def Vh{f:Nat}{av:List V}{s:St}{m:Nat}{z:Bool}{t:Nat}{A:List Tk}{w:V}{q:Nat}(h:RT f av s m z t A (fun v p'=>v=w/\p'=q)):Bw TT PT f (.ptr m 0 0::av) s w (s.set m (RO z t A q)):=by
 obtain⟨v,p',h1,-,rfl,rfl⟩:=h;exact h1
def Cj{τ:St}{i x y n t:Nat}{cs:List V}{e:Env}{v:V}(h:τ[i]?=some (.row cs t 0 0))(h1:e.get x=.ptr i 0 0)(hn:cs.length=n)(h2:e.get y=v):Cd e τ [AR.cell x n false,AR.tmp y]=some (.tup [.agg cs,v]):=by
 subst hn h2
 simp_all [Cd,Gs,I4,Hp]
/-! tokens -/
def Ae(A:List Tk)(p:Nat):Tk:=(A[p]?).getD Tk.zero
abbrev tkR (t:Tk):List V:=[iV t.kind,.str t.text,iV t.line]
abbrev Bo (t:Tk):Ob:=.row (tkR t) 123 0 0
def Blm(w:List UInt8)(A:List Tk)(p:Nat):As w (A.drop p)=(((Ae A p).kind==3||(Ae A p).kind==4)&&(Ae A p).text==w):=by
 grind[Ae,List.drop_eq_nil_of_le,As,Tk.zero,List.drop_eq_getElem_cons]
def Qm(A:List Tk):(A.map Tk.row).length=A.length:=Ar ..
def Al4{A:List Tk}{p:Nat}{x:Tk}(h:A[p]?=some x):(A.map Tk.row)[p]?=some [iV x.kind,.str x.text,iV x.line]:=by rw[Au,h];rfl
def Tm{s:St}{m:Nat}{z:Bool}{t:Nat}{A:List Tk}{p:Nat}(hs:s[m]?=some (RO z t A p))(hA:A.length<=1000000)(hp:p<=A.length):Bw TT PT 56 [.ptr m 0 0] s (.agg (tkR (Ae A p))) s:=by
 suffices h:RT 56 [] s m z t A (fun v p'=>v=.agg (tkR (Ae A p))/\p'=p) by
  have:=Vh h;rw[O8 hs]at this;exact this
 refine Mn T56 rfl hs fun S hS=>?_
 have Zq:=Dn hS;obtain⟨-,-,qe,get,get0,set,set0,n0,n1,n2,u0,u1,u2⟩:=hS;unfold Ae;by_cases h:A.length<=p
 .have g:((A.length:Int)<=(p:Int))=True:=eq_true AA;have e:A[p]?=none:=by simpa using h
  simp only[go_sem,Zq,LZ];refine Af AD ?_;simp only[go_sem,Zq,LZ,Qm,ge_iff_le,g];refine Ch (v:=.agg [iV 0,.str [],iV 0]) (Wh (n0 _ _ _) rfl rfl) ⟨rfl,rfl⟩ hp ⟨?_,rfl⟩;rw[e];rfl
 .have g:((A.length:Int)<=(p:Int))=False:=eq_false AA;obtain⟨x,hx⟩:∃ x,A[p]?=some x:=⟨_,B9 AA⟩;have qG:=Al4 hx;simp only[go_sem,Zq,LZ];refine Af AD ?_;simp only[go_sem,Zq,LZ,Qm,ge_iff_le,g];refine Af AD ?_;simp only[go_sem,Zq,LZ,Qm,qG];refine Bb ?_;simp only[go_sem,Zq,LZ];refine Ch (v:=.agg [iV x.kind,.str x.text,iV x.line]) (Wh (n0 _ _ _) rfl rfl) ⟨rfl,rfl⟩ hp ⟨?_,rfl⟩
  grind
def An2{s:St}{m:Nat}{z:Bool}{t:Nat}{A:List Tk}{p:Nat}(hs:s[m]?=some (RO z t A p))(hA:A.length<=1000000)(hp:p<=A.length)(w:List UInt8):Bw TT PT 59 [.ptr m 0 0,.str w] s (.bool (As w (A.drop p))) s:=by
 suffices h:RT 59 [.str w] s m z t A (fun v p'=>v=.bool (As w (A.drop p))/\p'=p) by
  have:=Vh h;rw[O8 hs]at this;exact this
 refine Mn T59 rfl hs fun S hS=>?_
 have hn:=Tm (hS.get0 p) hA hp;have Zq:=Dn hS;obtain⟨-,-,qe,get,get0,set,set0,n0,n1,n2,u0,u1,u2⟩:=hS;rw[Blm];generalize Ae A p=x at hn;obtain⟨k,tx,ln⟩:=x;simp only at hn ⊢;simp only[go_sem,Zq,LZ];refine Aa hn ?_;simp only[go_sem,Zq,LZ]
 cases h3:(k==3)<;>cases h4:(k==4)<;>cases hw:(tx==w)
 all_goals
  simp only[go_sem,Zq,LZ,h3,h4,hw];exact Ch rfl ⟨rfl,rfl⟩ hp ⟨rfl,rfl⟩
def Eh{A:List Tk}{p:Nat}:A.drop (p+1)=(A.drop p).tail:=by simp_all
def Ec{w:List UInt8}{A:List Tk}{p:Nat}(h:As w (A.drop p)=true):p<A.length:=by
 rcases Bh p A.length with h' | h'
 .exact h'
 .rw[D1 h']at h;cases h
def Uh{s:St}{m:Nat}{z:Bool}{t:Nat}{A:List Tk}{p:Nat}(hs:s[m]?=some (RO z t A p))(hA:A.length<=1000000){w:List UInt8}(h:As w (A.drop p)=true):Bw TT PT 100 [.ptr m 0 0,.str w] s (.bool true) (s.set m (RO z t A (p+1))):=by
 have qf:=Ec h;refine Vh (A:=A) (z:=z) (t:=t) (Mn T100 rfl hs fun S hS=>?_);have ha:=An2 (hS.get0 p) hA AA w;rw[h]at ha;have ql:=A2 (show p<9223372036854775807 by omega);have Zq:=Dn hS;obtain⟨-,-,qe,get,get0,set,set0,n0,n1,n2,u0,u1,u2⟩:=hS;simp only[go_sem,Zq,LZ];refine Aa ha ?_;simp only[go_sem,Zq,LZ,ql];exact Aa4 rfl ⟨rfl,rfl⟩ AA ⟨rfl,rfl⟩
def Ui{s:St}{m:Nat}{z:Bool}{t:Nat}{A:List Tk}{p:Nat}(hs:s[m]?=some (RO z t A p))(hA:A.length<=1000000)(hp:p<=A.length){w:List UInt8}(h:As w (A.drop p)=false):Bw TT PT 100 [.ptr m 0 0,.str w] s (.bool false) s:=by
 suffices h:Bw TT PT 100 [.ptr m 0 0,.str w] s (.bool false) (s.set m (RO z t A p)) by
  rw[O8 hs]at h;exact h
 refine Vh (A:=A) (z:=z) (t:=t) (Mn T100 rfl hs fun S hS=>?_);have ha:=An2 (hS.get0 p) hA hp w;rw[h]at ha;have Zq:=Dn hS;obtain⟨-,-,qe,get,get0,set,set0,n0,n1,n2,u0,u1,u2⟩:=hS;simp only[go_sem,Zq,LZ];refine Aa ha ?_;simp only[go_sem,Zq,LZ];exact Aa4 rfl ⟨rfl,rfl⟩ hp ⟨rfl,rfl⟩
/-! the same, in the states of a reader's function -/
def Me{s:St}{m:Nat}{z:Bool}{t:Nat}{A:List Tk}{S:Nat->St}(hS:RdS s m z t A S){p:Nat}(l:St)(hA:A.length<=1000000){w:List UInt8}(h:As w (A.drop p)=true):Bw TT PT 100 [.ptr m 0 0,.str w] (S p++l) (.bool true) (S (p+1)++l):=by
 have:=Uh (hS.get p l) hA h;rw[show(S p++l).set m (RO z t A (p+1))=S (p+1)++l from hS.set p (p+1) l]at this;exact this
def K2{s:St}{m:Nat}{z:Bool}{t:Nat}{A:List Tk}{S:Nat->St}(hS:RdS s m z t A S){p:Nat}(l:St)(hA:A.length<=1000000)(hp:p<=A.length){w:List UInt8}(h:As w (A.drop p)=false):Bw TT PT 100 [.ptr m 0 0,.str w] (S p++l) (.bool false) (S p++l):=Ui (hS.get p l) hA hp h
theorem Nf{A:List Tk}{p:Nat}(h:p<A.length):A.drop p=Ae A p::A.drop (p+1):=by
 grind[Ae,List.drop_eq_getElem_cons]
def Lv{A:List Tk}{p:Nat}(h:A.length<=p):A.drop p=[]/\Ae A p=Tk.zero:=by
 unfold Ae
 simp_all
def Afs{A:List Tk}{p:Nat}(h:(Ae A p).kind≠0):p<A.length:=by
 rcases Bh p A.length with h' | h'
 .exact h'
 .rw[(Lv h').2]at h;exact absurd rfl h
def Yr{s:St}{m:Nat}{z:Bool}{t:Nat}{A:List Tk}{p:Nat}(hs:s[m]?=some (RO z t A p))(hA:A.length<=1000000)(hp:p<=A.length):
  (∀ w r,C6 (A.drop p)=some (w,r)->Bw TT PT 97 [.ptr m 0 0] s (.tup [.str w,.bool true]) (s.set m (RO z t A (p+1)))/\p<A.length/\A.drop (p+1)=r)/\(C6 (A.drop p)=none->Bw TT PT 97 [.ptr m 0 0] s (.tup [.str [],.bool false]) s):=by
 have hk:∀ b:Bool,((Ae A p).kind==1)=b->Bw TT PT 97 [.ptr m 0 0] s (.tup [.str (if b then(Ae A p).text else []),.bool b]) (s.set m (RO z t A (if b then p+1 else p))):=fun b hb=>by
  have qf:b=true->p<A.length:=fun h=>Afs (by grind)
  refine Vh (A:=A) (z:=z) (t:=t) (Mn T97 rfl hs fun S hS=>?_);have hn:=Tm (hS.get0 p) hA hp;have qg:((Ae A p).kind != 1)=!b:=by rw[bne,hb]
  have Zq:=Dn hS;obtain⟨-,-,qe,get,get0,set,set0,n0,n1,n2,u0,u1,u2⟩:=hS;cases b
  .simp only[go_sem,Zq,LZ];refine Aa hn ?_;simp only[go_sem,Zq,LZ,qg,A1,Ay];exact Ch rfl ⟨rfl,rfl⟩ hp ⟨rfl,rfl⟩
  .have ql:=A2 (show p<9223372036854775807 by omega);simp only[go_sem,Zq,LZ];refine Aa hn ?_;simp only[go_sem,Zq,LZ,qg,ql,A1,Ay];exact Ch rfl ⟨rfl,rfl⟩ (qf rfl) ⟨rfl,rfl⟩
 refine⟨fun w r h=>?_,fun h=>?_⟩
 .have qf:p<A.length:=by
   rcases Bh p A.length with h' | h'
   .exact h'
   .rw[(Lv h').1]at h;cases h
  rw[Nf qf]at h;simp only[C6]at h
  grind
 .have hb:((Ae A p).kind==1)=false:=by
   rcases Bh p A.length with h' | h'
   .grind[Nf,C6]
   .rw[(Lv h').2];rfl
  have:=hk false hb;simp only[Hg,if_false]at this;rw[O8 hs]at this;exact this
def Agv{s:St}{m:Nat}{z:Bool}{t:Nat}{A:List Tk}{p:Nat}(hs:s[m]?=some (RO z t A p))(hA:A.length<=1000000)(hp:p<=A.length)(hN:∀ t∈A,t.kind=2->Lib.parseIntB 64 t.text=.ok (J1 t.text)/\t.text.length<=4096):
  (∀ w r,Hb (A.drop p)=some (w,r)->Bw TT PT 138 [.ptr m 0 0] s (.tup [iV w,.bool true]) (s.set m (RO z t A (p+1)))/\p<A.length/\A.drop (p+1)=r)/\(Hb (A.drop p)=none->Bw TT PT 138 [.ptr m 0 0] s (.tup [iV 0,.bool false]) s):=by
 have hk:∀ b:Bool,((Ae A p).kind==2)=b->Bw TT PT 138 [.ptr m 0 0] s (.tup [iV (if b then J1 (Ae A p).text else 0),.bool b]) (s.set m (RO z t A (if b then p+1 else p))):=fun b hb=>by
  have qf:b=true->p<A.length:=fun h=>Afs (by grind)
  refine Vh (A:=A) (z:=z) (t:=t) (Mn T138 rfl hs fun S hS=>?_);have hn:=Tm (hS.get0 p) hA hp;have qg:((Ae A p).kind != 2)=!b:=by rw[bne,hb]
  have Zq:=Dn hS;obtain⟨-,-,qe,get,get0,set,set0,n0,n1,n2,u0,u1,u2⟩:=hS;cases b
  .simp only[go_sem,Zq,LZ];refine Aa hn ?_;simp only[go_sem,Zq,LZ,qg,A1,Ay];exact Ch rfl ⟨rfl,rfl⟩ hp ⟨rfl,rfl⟩
  .have ql:=A2 (show p<9223372036854775807 by omega)
   have qs:Ae A p∈A:=by
    have h:=qf rfl;unfold Ae;rw[B9 h];exact M4 h
   obtain⟨hv,hl⟩:=hN _ qs (by grind)
   have q:Y7 [.str (Ae A p).text,iV 10,iV 64]=some (.tup [iV (J1 (Ae A p).text),.nili]):=by
    simp only[Y7];rw[if_pos AA,hv]
   simp only[go_sem,Zq,LZ];refine Aa hn ?_;simp only[go_sem,Zq,LZ,qg,A1,Ay];refine Fm P169 AB q ?_;simp only[go_sem,Zq,LZ,ql];exact Ch rfl ⟨rfl,rfl⟩ (qf rfl) ⟨rfl,rfl⟩
 refine⟨fun w r h=>?_,fun h=>?_⟩
 .have qf:p<A.length:=by
   rcases Bh p A.length with h' | h'
   .exact h'
   .rw[(Lv h').1]at h;cases h
  rw[Nf qf]at h;simp only[Hb]at h
  grind
 .have hb:((Ae A p).kind==2)=false:=by
   rcases Bh p A.length with h' | h'
   .grind[Nf,Hb]
   .rw[(Lv h').2];rfl
  have:=hk false hb;simp only[Hg,if_false]at this;rw[O8 hs]at this;exact this
/-! operators -/
def Ba6:(opTab.all fun p=>match (Lp (Oj TT PT 300) af241 [.str p.1] []).bind fun q=>Ed q.2 q.1 with
  | some (.tup [.int .i64 a,.int .i64 b])=>a==(Gl p.1).1&&b==(Gl p.1).2
  | _=>false)=true:=by kernel_rfl
def Bln(w:List UInt8):Fn TT PT 241 [.str w] (.tup [iV (Gl w).1,iV (Gl w).2]):=by
 by_cases hm:∃ p∈opTab,p.1=w
 .obtain⟨p,hp,rfl⟩:=hm;have hr:=Bu.1 Ba6 p hp
  split at hr
  .rename_i a b hv;simp only[Ai,beq_iff_eq]at hr;rw[<-hr.1,<-hr.2];exact Rh Sf T241 rfl rfl hv
  .cases hr
 .have qg:∀ p∈opTab,(w==p.1)=false:=fun p hp=>by
   grind
  have h0:Gl w=(0,0):=by
   unfold Gl
   have:opTab.lookup w=none:=by
    rw[List.lookup_eq_none_iff];exact fun p hp=>by grind
   rw[this];rfl
  rw[h0];simp only[opTab,Bp,L8,or_false,forall_eq_or_imp,forall_eq]at qg;obtain⟨a1,a2,a3,a4,a5,a6,a7,a8,a9,qx,qy,qz,qA⟩:=qg;refine Bg T241 rfl ?_;simp only[go_sem,a1,a2,a3,a4,a5,a6,a7,a8,a9,qx,qy,qz,qA];exact Gt rfl
def Bgc{s:St}{m:Nat}{z:Bool}{t:Nat}{A:List Tk}{p:Nat}(hs:s[m]?=some (RO z t A p))(hA:A.length<=1000000)(hp:p<=A.length)(lvl:Nat):Bw TT PT 235 [.ptr m 0 0,iV (lvl:Int)] s (iV (H8 lvl (A.drop p))) s:=by
 suffices h:Bw TT PT 235 [.ptr m 0 0,iV (lvl:Int)] s (iV (H8 lvl (A.drop p))) (s.set m (RO z t A p)) by
  rw[O8 hs]at h;exact h
 have ho:H8 lvl (A.drop p)=if(Ae A p).kind=4 then(if(Gl (Ae A p).text).2=(lvl:Int) then(Gl (Ae A p).text).1 else 0) else 0:=by
  rcases Bh p A.length with h' | h'
  .rw[Nf h'];rfl
  .rw[(Lv h').1,(Lv h').2];rfl
 rw[ho];refine Vh (A:=A) (z:=z) (t:=t) (Mn T235 rfl hs fun S hS=>?_);have hn:=Tm (hS.get0 p) hA hp;have hb:=Bln (Ae A p).text;generalize Gl (Ae A p).text=o at hb ⊢;obtain⟨o1,o2⟩:=o;simp only at hb ⊢;have Zq:=Dn hS;obtain⟨-,-,qe,get,get0,set,set0,n0,n1,n2,u0,u1,u2⟩:=hS;by_cases h4:(Ae A p).kind=4
 .have g4:((Ae A p).kind != 4)=false:=by simp[h4]
  rw[if_pos h4];by_cases hl:o2=(lvl:Int)
  .have gl:(o2 != (lvl:Int))=false:=by simp[hl]
   rw[if_pos hl];simp only[go_sem,Zq,LZ];refine Aa hn ?_;simp only[go_sem,Zq,LZ,g4];refine Ab hb AB ?_;simp only[go_sem,Zq,LZ,gl];exact Ch rfl ⟨rfl,rfl⟩ hp ⟨rfl,rfl⟩
  .have gl:(o2 != (lvl:Int))=true:=by simp[hl]
   rw[if_neg hl];simp only[go_sem,Zq,LZ];refine Aa hn ?_;simp only[go_sem,Zq,LZ,g4];refine Ab hb AB ?_;simp only[go_sem,Zq,LZ,gl];exact Ch rfl ⟨rfl,rfl⟩ hp ⟨rfl,rfl⟩
 .have g4:((Ae A p).kind != 4)=true:=by simp[h4]
  rw[if_neg h4];simp only[go_sem,Zq,LZ];refine Aa hn ?_;simp only[go_sem,Zq,LZ,g4];exact Ch rfl ⟨rfl,rfl⟩ hp ⟨rfl,rfl⟩
