/- Plain: what is parsed is shaped and not much longer than its tokens. -/
import Derived.Test.YtcoeikinocflnaaGreatDoorLd
set_option linter.all false
namespace Go.Proofs.YtcoeikinocflnaaGreatDoor.KM
open Go
theorem Yf{p:UInt8->Bool}:∀ {l:List UInt8} {x:UInt8},x∈l.takeWhile p->p x=true
 | [],x,h=>by cases h
 | c::l,x,h=>by
  rw[V5]at h
  split at h
  ·rename_i hc;rcases Be.1 h with rfl | h
   ·exact hc
   ·exact Yf h
  ·cases h
def De(ts:List Tk):Prop:=∀ t∈ts,(t.kind=1->Bv t.text=true)/\(t.kind=2->0<=Hm t.text/\Hm t.text<=9223372036854775807)
theorem C0{a b:List Tk}(h:De b)(hs:a <:+ b):De a:=fun t ht=>h t (hs.subset ht)
def wt(C:Nat)(ts:List Tk):Nat:=C*ts.length
theorem Ph(C:Nat)(t:Tk)(ts:List Tk):wt C (t::ts)=C+wt C ts:=by unfold wt;rw[Am,Nat.mul_add];omega
theorem Jo{s:List UInt8}{ts:List Tk}{C:Nat}(h:As s ts=true):ts.tail <:+ ts/\ts.tail.length+1=ts.length/\wt C ts=C+wt C ts.tail:=by
 cases ts with
 | nil=>cases h
 | cons t r=>exact⟨Oz t r,rfl,Ph C t r⟩
theorem Auq{lvl:Nat}{ts:List Tk}{C:Nat}(h:F8 lvl ts≠0):ts.tail <:+ ts/\ts.tail.length+1=ts.length/\wt C ts=C+wt C ts.tail:=by
 cases ts with
 | nil=>exact absurd rfl h
 | cons t r=>exact⟨Oz t r,rfl,Ph C t r⟩
theorem Pw{l:List UInt8}(h:Bv l=true):l.length<=12:=by
 obtain⟨c,cs,rfl,-,-,h,-⟩:=Aq6 h;exact h
theorem Aoz{op:Int}(h:6<=op/\op<=18)(x y:Xp):(I8 op x y).txt.length<=x.txt.length+y.txt.length+8:=by
 unfold I8;rw[Aum h];have h1:=(Kz (x.op,x.txt) (F6 op)).2;have h2:=(Kz (y.op,y.txt) (Bj op+1)).2;have h3:=(Ai7 (op:=op) ⟨by omega,by omega⟩).1;simp only at h1 h2;simp only[Ao,Am];omega
theorem Aq9{op:Int}(h:op=4\/op=5)(x:Xp):(Mc op x).txt.length<=x.txt.length+4:=by
 unfold Mc;rw[(Aya h).1];have h1:=(Kz (x.op,x.txt) 6).2;have h3:=(Ai7 (op:=op) ⟨by omega,by omega⟩).1;simp only at h1;simp only[Ao];omega
def XQ(C:Nat)(ts:List Tk)(x:Xp)(r:List Tk):Prop:=ShE x/\r <:+ ts/\r.length<ts.length/\x.txt.length+wt C r<=wt C ts
theorem Q5{C:Nat}(hC:25<=C):∀ n,(∀ lvl ts x r,De ts->pe n lvl ts=some (x,r)->XQ C ts x r) /\
  (∀ lvl x0 ts x r,De ts->ShE x0->lp n lvl x0 ts=some (x,r)->ShE x/\r <:+ ts/\r.length<=ts.length/\x.txt.length+wt C r<=x0.txt.length+wt C ts) /\
  (∀ ts x r,De ts->pu n ts=some (x,r)->XQ C ts x r)/\(∀ ts x r,De ts->pp n ts=some (x,r)->XQ C ts x r)
 | 0=>⟨fun _ _ _ _ _ h=>by simp[pe]at h,fun _ _ _ _ _ _ _ h=>by simp[lp]at h,fun _ _ _ _ h=>by simp[pu]at h,fun _ _ _ _ h=>by simp[pp]at h⟩
 | n+1=>by
  obtain⟨ih1,ih2,ih3,ih4⟩:=Q5 hC n;refine⟨fun lvl ts x r ht h=>?_,fun lvl x0 ts x r ht h0 h=>?_,fun ts x r ht h=>?_,fun ts x r ht h=>?_⟩
  ·rw[pe]at h
   split at h
   ·exact ih3 ts x r ht h
   ·split at h
    ·cases h
    ·rename_i y q hy;obtain⟨a1,a2,a3,a4⟩:=ih1 _ _ _ _ ht hy;obtain⟨b1,b2,b3,b4⟩:=ih2 _ _ _ _ _ (C0 ht a2) a1 h;exact⟨b1,b2.trans a2,by omega,by omega⟩
  ·rw[lp]at h
   split at h
   ·cases h;exact⟨h0,Z0 _,Ah _,Ah _⟩
   ·rename_i ho;obtain⟨t1,t2,t3⟩:=Auq (C:=C) ho;obtain⟨o1,-,-⟩:=Aq7 ho
    split at h
    ·cases h
    ·rename_i y q hy;obtain⟨a1,a2,a3,a4⟩:=ih1 _ _ _ _ (C0 ht t1) hy;have hs:ShE (I8 (F8 lvl ts) x0 y):=.bin o1 h0 a1;have hb:=Aoz o1 x0 y
     split at h
     ·cases h;exact⟨hs,a2.trans t1,by omega,by omega⟩
     ·obtain⟨b1,b2,b3,b4⟩:=ih2 _ _ _ _ _ (C0 (C0 ht t1) a2) hs h;exact⟨b1,(b2.trans a2).trans t1,by omega,by omega⟩
  ·have un:∀ (op:Int),op=4\/op=5->∀ s,As s ts=true->(match pu n ts.tail with
     | none=>none
     | some (x,r)=>some (Mc op x,r))=some (x,r)->XQ C ts x r:=fun op ho s hs h=>by
    obtain⟨t1,t2,t3⟩:=Jo (C:=C) hs
    split at h
    ·cases h
    ·rename_i y q hy;cases h;obtain⟨a1,a2,a3,a4⟩:=ih3 _ _ _ (C0 ht t1) hy;have:=Aq9 ho y;exact⟨.un ho a1,a2.trans t1,by omega,by omega⟩
   rw[pu]at h
   split at h
   ·rename_i hs;exact un 4 (.inl rfl) _ hs h
   ·split at h
    ·rename_i hs;exact un 5 (.inr rfl) _ hs h
    ·exact ih4 ts x r ht h
  ·cases ts with
   | nil=>simp[pp]at h
   | cons t ts=>
    have hw:=Ph C t ts;have hsf:=Oz t ts;have htl:=C0 ht hsf;obtain⟨k1,k2⟩:=ht t Ec;rw[pp]at h
    split at h
    ·rename_i hk;cases h;refine⟨.num (k2 hk),hsf,by simp,?_⟩;have:=Rc (Hm t.text);rw[Ed];simp only[Di,if_true];omega
    ·split at h
     ·rename_i hk;have hn:=k1 hk;have hnl:=Pw hn
      split at h
      ·rename_i hs;obtain⟨t1,t2,t3⟩:=Jo (C:=C) hs
       split at h
       ·cases h
       ·rename_i y q hy;obtain⟨a1,a2,a3,a4⟩:=ih1 _ _ _ _ (C0 htl t1) hy
        split at h
        ·rename_i hs2;obtain⟨u1,u2,u3⟩:=Jo (C:=C) hs2;cases h;refine⟨.idx hn a1,((u1.trans a2).trans t1).trans hsf,by simp only[Am];omega,?_⟩;rw[Ed];simp[Di];omega
        ·cases h
      ·cases h;refine⟨.name hn,hsf,by simp,?_⟩;rw[Ed];simp only[Di,show((2:Int)=1)=False from eq_false (by omega),if_false,if_true];omega
     ·split at h
      ·split at h
       ·cases h
       ·rename_i y q hy;obtain⟨a1,a2,a3,a4⟩:=ih1 _ _ _ _ htl hy
        split at h
        ·rename_i hs2;obtain⟨u1,u2,u3⟩:=Jo (C:=C) hs2;cases h;exact⟨a1,(u1.trans a2).trans hsf,by simp only[Am];omega,by omega⟩
        ·cases h
      ·cases h
/-! scanning gives right tokens -/
theorem Re:∀ (n:Nat) (ln:Int) (l:List UInt8) (ts:List Tk),Dn n ln l=some ts->De ts
 | n,ln,[],ts,h=>by
  have:Dn n ln []=some []:=by cases n<;>rfl
  rw[this]at h;cases h;intro t ht;cases ht
 | 0,ln,c::r,ts,h=>by cases h
 | n+1,ln,c::r,ts,h=>by
  rw[Dn]at h
  split at h
  ·exact Re n _ _ _ h
  ·split at h
   ·exact Re n _ _ _ h
   ·split at h
    ·exact Re n _ _ _ h
    ·split at h
     ·cases h
     ·rename_i k w hf;simp only[Bm]at h;obtain⟨l,hl,rfl⟩:=h;intro t ht;rcases Be.1 ht with rfl | ht
      ·rw[Qz]at hf;simp only
       split at hf
       ·rename_i hc
        split at hf
        ·cases hf
        ·rename_i h12;cases hf;refine⟨fun hk=>?_,fun hk=>?_⟩
         ·split at hk
          ·cases hk
          ·rename_i hkw;refine Aj9 (by simp[D4]) (by omega) (by simpa using hkw) fun j hj=>?_
           have hin:∀ d∈D4 c r,Le d=true:=fun d hd=>by
            rcases Be.1 hd with rfl | hd
            ·exact(Aul hc).2.2.2
            ·exact Yf hd
           cases j with
           | zero=>
            have h1:I6 c.toNat=true:=hc;simp[Lf,D4,h1]
           | succ j=>
            have hm:((D4 c r).getD (j+1) 0)∈D4 c r:=by rw[Aq,A0 hj];exact Fa _
            have hi:=hin _ hm;unfold Le J0 at hi;unfold Lf;simp only[Hb,Af,decide_eq_true_eq]at hi ⊢;rcases hi with h | h | h
            ·exact .inl h
            ·exact .inr ⟨by omega,.inr h⟩
            ·exact .inr ⟨by omega,.inl h⟩
         ·split at hk<;>cases hk
       ·split at hf
        ·rename_i hc
         split at hf
         ·cases hf
         ·split at hf
          ·rename_i hok;cases hf;refine⟨(fun hk=>by cases hk),fun _=>?_⟩
           have hd:H6 (Du c r):=fun d hd=>by
            rcases Be.1 hd with rfl | hd
            ·exact hc
            ·exact Yf hd
           rw[Agl hd]at hok;have hv:=of_decide_eq_true hok;have:=Ahy hd hv;unfold Du at hv ⊢;rw[this];omega
          ·cases hf
        ·split at hf
         ·cases hf
         ·cases hf;exact⟨(fun hk=>by cases hk),(fun hk=>by cases hk)⟩
      ·exact Re n _ _ _ hl t ht
/-! statements -/
def Vs(C:Nat)(ts r:List Tk):Prop:=r <:+ ts/\r.length+1=ts.length/\wt C ts=C+wt C r
theorem Ahz(C:Nat)(t:Tk)(r:List Tk):Vs C (t::r) r:=⟨Oz t r,rfl,Ph C t r⟩
theorem O7{C:Nat}{ts r:List Tk}{nm:List UInt8}(ht:De ts)(h:Cy ts=some (nm,r)):Bv nm=true/\Vs C ts r:=by
 cases ts with
 | nil=>cases h
 | cons t ts=>
  unfold Cy at h;simp only at h
  split at h
  ·rename_i hk;cases h;exact⟨(ht t Ec).1 hk,Ahz C t _⟩
  ·cases h
theorem Ix{C:Nat}{s:List UInt8}{ts r:List Tk}(h:Df s ts=some r):Vs C ts r:=by
 unfold Df at h
 split at h
 ·rename_i hs;cases h;obtain⟨h1,h2,h3⟩:=Jo (C:=C) hs;exact⟨h1,h2,h3⟩
 ·cases h
theorem Xg{C:Nat}{ts r:List Tk}{n:Int}(ht:De ts)(h:Fy ts=some (n,r)):(0<=n/\n<=9223372036854775807)/\Vs C ts r:=by
 cases ts with
 | nil=>cases h
 | cons t ts=>
  unfold Fy at h;simp only at h
  split at h
  ·rename_i hk;cases h;exact⟨(ht t Ec).2 hk,Ahz C t _⟩
  ·cases h
theorem Aam:∀ {l:List (List UInt8 × Int)} {s:List UInt8} {v:Int},l.lookup s=some v->∃ a,(a,v)∈l
 | [],_,_,h=>by cases h
 | (a,w)::l,s,v,h=>by
  rw[We]at h
  split at h
  ·cases h;exact⟨a,Ec⟩
  ·obtain⟨b,hb⟩:=Aam h;exact⟨b,Dz _ hb⟩
theorem Ah0(s:List UInt8):Dq s=0\/(2<=Dq s/\Dq s<=15):=by
 unfold Dq
 cases h:wordTab.lookup s with
 | none=>exact .inl rfl
 | some v=>
  obtain⟨a,ha⟩:=Aam h;have:(wordTab.all fun p=>decide (2<=p.2/\p.2<=15))=true:=by decide
  exact .inr (of_decide_eq_true (Bd.1 this (a,v) ha))
theorem Ah1(s:List UInt8):Fw s=0\/(1<=Fw s/\Fw s<=6):=by
 unfold Fw
 cases h:declTab.lookup s with
 | none=>exact .inl rfl
 | some v=>
  obtain⟨a,ha⟩:=Aam h;have:(declTab.all fun p=>decide (1<=p.2/\p.2<=6))=true:=by decide
  exact .inr (of_decide_eq_true (Bd.1 this (a,v) ha))
def Jv(s:Sp):Nat:=if Dl s.op then s.ex.txt.length else 0
theorem Aur(op:Int):(Cu op).length<=11:=by
 unfold Cu
 split<;>simp
theorem Aus(s:Sp):(Ce s).length<=20+s.nm.length+s.arg.length+(En s.idx).length+Jv s:=by
 have hw:=Aur s.op;unfold Ce Jv Dl;by_cases h1:s.op=1
 ·simp[h1];omega
 by_cases h2:s.op=2
 ·rw[h2]at hw;simp[h2];omega
 by_cases h3:s.op=3
 ·rw[h3]at hw;simp[h3];omega
 by_cases h14:s.op=14
 ·rw[h14]at hw;simp[h14];omega
 rw[if_neg h1,if_neg (by omega)]
 split
 ·omega
 ·try rw[if_neg h14]
  split
  ·simp;omega
  ·simp;omega
theorem Aye(d:Nat)(s:Sp):(s.txt d).length<=6*d+40+s.nm.length+s.arg.length+(En s.idx).length+Jv s+(if Bq s.op then(Sp.txts (d+1) s.body).length+(Sp.txts (d+1) s.els).length else 0):=by
 have hh:=Aus s;rw[I0]
 have h5:(if s.els.isEmpty=true then [] else Dr d++125::32::101::108::115::101::32::123::10::Sp.txts (d+1) s.els).length<=2*d+9+(Sp.txts (d+1) s.els).length:=by
  split
  ·simp
  ·simp[Hx];omega
 cases Bq s.op
 ·simp only[Ao,Hx,Er,if_false,Am,Cx];omega
 ·simp only[Ao,Hx,if_true,Am,Cx];omega
def SQ(M C:Nat)(ts:List Tk)(s:Sp)(r:List Tk):Prop:=ShS s/\r <:+ ts/\r.length<ts.length/\s.sz+r.length<=ts.length/\∀ d,d+ts.length<=M->(s.txt d).length+wt C r<=wt C ts
def LQ(M C:Nat)(ts:List Tk)(l:List Sp)(r:List Tk):Prop:=(∀ s∈l,ShS s)/\r <:+ ts/\r.length<ts.length/\Sp.szs l+r.length<ts.length/\∀ d,d+ts.length<=M->(Sp.txts d l).length+wt C r<=wt C ts
theorem Of{M C:Nat}(hC:100+8*M<=C){ts r:List Tk}{s:Sp}(hs:ShS s)(h1:r <:+ ts)(h2:r.length<ts.length)(h3:Sp.szs s.body+Sp.szs s.els+1+r.length<=ts.length)
  (h4:∀ d,d+ts.length<=M->C+(En s.idx).length+Jv s+((Sp.txts (d+1) s.body).length+(Sp.txts (d+1) s.els).length)+wt C r<=wt C ts):SQ M C ts s r:=by
 refine⟨hs,h1,h2,by rw[Jp];omega,fun d hd=>?_⟩;have h5:=h4 d hd;have h6:=Aye d s
 have h7:s.nm.length<=12/\s.arg.length<=12:=by
  cases hs with
  | mk a1 a2 a3 a4 a5 _ _ _ _ _ _ _ _ _=>
   constructor
   ·cases hn:E5 s.op
    ·exact Pw (a3 hn)
    ·rw[a2 hn];exact A2 _
   ·by_cases ha:s.op=15
    ·exact Pw (a4 ha)
    ·rw[a5 ha];exact A2 _
 have h8:(if Bq s.op then(Sp.txts (d+1) s.body).length+(Sp.txts (d+1) s.els).length else 0)<=(Sp.txts (d+1) s.body).length+(Sp.txts (d+1) s.els).length:=by
  split
  ·exact Ah _
  ·exact A2 _
 omega
theorem Anv{M C:Nat}(hC:100+8*M<=C){n:Nat}{line:Int}{ts:List Tk}{s:Sp}{r:List Tk}(ht:De ts)(h:P4 n line ts=some (s,r)):SQ M C ts s r:=by
 unfold P4 at h
 split at h
 ·cases h
 rename_i nm t1 hn;obtain⟨n1,n2,n3,n4⟩:=O7 (C:=C) ht hn;have ht1:=C0 ht n2
 split at h
 ·cases h
 rename_i ix t2 hi
 have hix:ix.length<=1/\(∀ x∈ix,ShE x)/\t2 <:+ t1/\t2.length<=t1.length/\(En ix).length+wt C t2<=wt C t1:=by
  unfold Aeb at hi
  split at hi
  ·rename_i hs;obtain⟨u1,u2,u3⟩:=Jo (C:=C) hs
   split at hi
   ·cases hi
   ·rename_i x q hx;obtain⟨a1,a2,a3,a4⟩:=(Q5 (C:=C) (by omega) n).1 _ _ _ _ (C0 ht1 u1) hx;simp only[Bm]at hi;obtain⟨q',hq,hi⟩:=hi;cases hi;obtain⟨b1,b2,b3⟩:=Ix (C:=C) hq;have:=Ahi [x];simp only at this;exact⟨by simp,by simpa using a1,(b1.trans a2).trans u1,by omega,by omega⟩
  ·cases hi;exact⟨by simp,by simp,Z0 _,Ah _,by simp[En]⟩
 obtain⟨i1,i2,i3,i4,i5⟩:=hix;have ht2:=C0 ht1 i3
 split at h
 ·cases h
 rename_i t3 h3;obtain⟨c1,c2,c3⟩:=Ix (C:=C) h3;have ht3:=C0 ht2 c1
 split at h
 ·cases h
 rename_i x t4 hx;obtain⟨a1,a2,a3,a4⟩:=(Q5 (C:=C) (by omega) n).1 _ _ _ _ ht3 hx;simp only[Bm]at h;obtain⟨t5,h5,h⟩:=h;cases h;obtain⟨d1,d2,d3⟩:=Ix (C:=C) h5;refine Of hC (.mk ⟨by simp[Al],by simp[Al]⟩ (by simp[Al,E5]) (fun _=>n1) (by simp[Al]) (by simp[Al]) i1 (by simp[Al]) i2 (fun _=>a1) (by simp[Al,Dl]) (by simp[Al]) (by simp[Al]) (by simp[Al]) (by simp[Al])) ((((d1.trans a2).trans c1).trans i3).trans n2) (by omega) (by simp[Al,Sp.szs];omega) fun d hd=>?_
 simp only[Al,Jv,Dl,Sp.txts,Cx];simp;omega
theorem Xh{M C:Nat}(hC:100+8*M<=C):∀ n,(∀ ts s r,De ts->Gn n ts=some (s,r)->SQ M C ts s r)/\(∀ ts l r,De ts->Eb n ts=some (l,r)->LQ (M+1) C ts l r)/\(∀ ts l r,De ts->H7 n ts=some (l,r)->LQ M C ts l r)
 | 0=>⟨fun _ _ _ _ h=>by simp[Gn]at h,fun _ _ _ _ h=>by simp[Eb]at h,fun _ _ _ _ h=>by simp[H7]at h⟩
 | n+1=>by
  obtain⟨ih1,ih2,ih3⟩:=Xh hC n;refine⟨fun ts s r ht h=>?_,fun ts l r ht h=>?_,fun ts l r ht h=>?_⟩
  ·cases ts with
   | nil=>simp[Gn]at h
   | cons t ts=>
    have hw:=Ph C t ts;have hsf:=Oz t ts;have htl:=C0 ht hsf;rw[Gn]at h
    split at h
    ·exact Anv hC ht h
    split at h
    rotate_left
    ·cases h
    have hr:=Ah0 t.text;generalize Dq t.text=w at h hr
    split at h
    ·cases h
    split at h
    ·rename_i hw23
     split at h
     ·cases h
     rename_i x t1 hx;obtain⟨a1,a2,a3,a4⟩:=(Q5 (C:=C) (by omega) n).1 _ _ _ _ htl hx;have ht1:=C0 htl a2
     split at h
     ·cases h
     rename_i b t2 hb;obtain⟨b1,b2,b3,b4,b5⟩:=ih2 _ _ _ ht1 hb;have ht2:=C0 ht1 b2
     split at h
     ·rename_i hw2;obtain⟨rfl,hs⟩:=hw2;obtain⟨u1,u2,u3⟩:=Jo (C:=C) hs
      split at h
      ·cases h
      rename_i e t3 he;obtain⟨e1,e2,e3,e4,e5⟩:=ih2 _ _ _ (C0 ht2 u1) he;cases h;refine Of hC (.mk ⟨by simp[Al],by simp[Al]⟩ (by simp[Al]) (by simp[Al,E5]) (by simp[Al]) (by simp[Al]) (by simp[Al]) (by simp[Al]) (by simp[Al]) (fun _=>a1) (by simp[Al,Dl]) (by simp[Al,Bq]) (by simp[Al]) b1 e1) ((((e2.trans u1).trans b2).trans a2).trans hsf) (by simp only[Am];omega) (by simp only[Am];omega) fun d hd=>?_
      rw[Am]at hd;have:=b5 (d+1) (by omega);have:=e5 (d+1) (by omega);simp only[Al,Jv,Dl,En,Cx];simp;omega
     ·cases h;refine Of hC (.mk (by simp only[Al];omega) (by simp[Al]) (by rcases hw23 with rfl | rfl<;>simp[Al,E5]) (by simp[Al];omega) (by simp[Al]) (by simp[Al]) (by simp[Al]) (by simp[Al]) (fun _=>a1) (by rcases hw23 with rfl | rfl<;>simp[Al,Dl]) (by rcases hw23 with rfl | rfl<;>simp[Al,Bq]) (by simp[Al]) b1 (by simp[Al])) ((b2.trans a2).trans hsf) (by simp only[Am];omega) (by simp only[Al,Am,Sp.szs];omega) fun d hd=>?_
      rw[Am]at hd;have:=b5 (d+1) (by omega)
      have:Dl w=true:=by rcases hw23 with rfl | rfl<;>rfl
      simp only[Al,Jv,this,En,Cx,if_true,Sp.txts];omega
    ·split at h
     ·rename_i hw78
      split at h
      ·cases h
      rename_i b t2 hb;obtain⟨b1,b2,b3,b4,b5⟩:=ih2 _ _ _ htl hb;cases h;refine Of hC (.mk (by simp only[Al];omega) (by simp[Al]) (by rcases hw78 with rfl | rfl<;>simp[Al,E5]) (by simp[Al];omega) (by simp[Al]) (by simp[Al]) (by simp[Al]) (by simp[Al]) (by rcases hw78 with rfl | rfl<;>simp[Al,Dl]) (fun _=>⟨rfl,rfl,rfl,rfl⟩) (by rcases hw78 with rfl | rfl<;>simp[Al,Bq]) (by simp[Al]) b1 (by simp[Al])) (b2.trans hsf) (by simp only[Am];omega) (by simp only[Al,Am,Sp.szs];omega) fun d hd=>?_
      rw[Am]at hd;have:=b5 (d+1) (by omega)
      have:Dl w=false:=by rcases hw78 with rfl | rfl<;>rfl
      simp only[Al,Jv,this,En,Cx,Er,if_false,Sp.txts];omega
     ·split at h
      ·cases h
      rename_i nm t1 hn;obtain⟨n1,n2,n3,n4⟩:=O7 (C:=C) htl hn;have ht1:=C0 htl n2
      split at h
      ·rename_i hw456
       split at h
       ·cases h
       rename_i b t2 hb;obtain⟨b1,b2,b3,b4,b5⟩:=ih2 _ _ _ ht1 hb;cases h;refine Of hC (.mk (by simp only[Al];omega) (by rcases hw456 with rfl | rfl | rfl<;>simp[Al,E5]) (fun _=>n1) (by simp[Al];omega) (by simp[Al]) (by simp[Al]) (by simp[Al]) (by simp[Al]) (by rcases hw456 with rfl | rfl | rfl<;>simp[Al,Dl]) (fun _=>⟨rfl,rfl,rfl,rfl⟩) (by rcases hw456 with rfl | rfl | rfl<;>simp[Al,Bq]) (by simp[Al]) b1 (by simp[Al])) ((b2.trans n2).trans hsf) (by simp only[Am];omega) (by simp only[Al,Am,Sp.szs];omega) fun d hd=>?_
       rw[Am]at hd;have:=b5 (d+1) (by omega)
       have:Dl w=false:=by rcases hw456 with rfl | rfl | rfl<;>rfl
       simp only[Al,Jv,this,En,Cx,Er,if_false,Sp.txts];omega
      ·split at h
       ·rename_i hw14;subst hw14
        split at h
        ·cases h
        rename_i x t2 hx;obtain⟨a1,a2,a3,a4⟩:=(Q5 (C:=C) (by omega) n).1 _ _ _ _ ht1 hx;simp only[Bm]at h;obtain⟨t3,h3,h⟩:=h;cases h;obtain⟨d1,d2,d3⟩:=Ix (C:=C) h3;refine Of hC (.mk ⟨by simp[Al],by simp[Al]⟩ (by simp[Al,E5]) (fun _=>n1) (by simp[Al]) (by simp[Al]) (by simp[Al]) (by simp[Al]) (by simp[Al]) (fun _=>a1) (by simp[Al,Dl]) (by simp[Al]) (by simp[Al]) (by simp[Al]) (by simp[Al])) (((d1.trans a2).trans n2).trans hsf) (by simp only[Am];omega) (by simp only[Al,Am,Sp.szs];omega) fun d hd=>?_
        simp only[Al,Jv,Dl,En,Cx,Sp.txts];simp;omega
       ·split at h
        ·rename_i hw15;subst hw15
         split at h
         ·cases h
         rename_i ar t2 ha;obtain⟨a1,a2,a3,a4⟩:=O7 (C:=C) ht1 ha;simp only[Bm]at h;obtain⟨t3,h3,h⟩:=h;cases h;obtain⟨d1,d2,d3⟩:=Ix (C:=C) h3;refine Of hC (.mk ⟨by simp[Al],by simp[Al]⟩ (by simp[Al,E5]) (fun _=>n1) (fun _=>a1) (by simp[Al]) (by simp[Al]) (by simp[Al]) (by simp[Al]) (by simp[Al,Dl]) (fun _=>⟨rfl,rfl,rfl,rfl⟩) (by simp[Al]) (by simp[Al]) (by simp[Al]) (by simp[Al])) (((d1.trans a2).trans n2).trans hsf) (by simp only[Am];omega) (by simp only[Al,Am,Sp.szs];omega) fun d hd=>?_
         simp only[Al,Jv,Dl,En,Cx,Sp.txts];simp;omega
        ·simp only[Bm]at h;obtain⟨t3,h3,h⟩:=h;cases h;obtain⟨d1,d2,d3⟩:=Ix (C:=C) h3;have hw5:w=9\/w=10\/w=11\/w=12\/w=13:=by omega
         refine Of hC (.mk (by simp only[Al];omega) (by rcases hw5 with rfl | rfl | rfl | rfl | rfl<;>simp[Al,E5]) (fun _=>n1) (by simp[Al];omega) (by simp[Al]) (by simp[Al]) (by simp[Al]) (by simp[Al]) (by rcases hw5 with rfl | rfl | rfl | rfl | rfl<;>simp[Al,Dl]) (fun _=>⟨rfl,rfl,rfl,rfl⟩) (by simp[Al]) (by simp[Al]) (by simp[Al]) (by simp[Al])) ((d1.trans n2).trans hsf) (by simp only[Am];omega) (by simp only[Al,Am,Sp.szs];omega) fun d hd=>?_
         have:Dl w=false:=by rcases hw5 with rfl | rfl | rfl | rfl | rfl<;>rfl
         simp only[Al,Jv,this,En,Cx,Er,if_false,Sp.txts];omega
  ·rw[Eb]at h
   split at h
   ·rename_i hs;obtain⟨u1,u2,u3⟩:=Jo (C:=C) hs;obtain⟨b1,b2,b3,b4,b5⟩:=ih3 _ _ _ (C0 ht u1) h;exact⟨b1,b2.trans u1,by omega,by omega,fun d hd=>by have:=b5 d (by omega);omega⟩
   ·cases h
  ·rw[H7]at h
   split at h
   ·rename_i hs;obtain⟨u1,u2,u3⟩:=Jo (C:=C) hs;cases h;exact⟨by simp,u1,by omega,by simp only[Sp.szs];omega,fun d hd=>by simp only[Sp.txts,Cx];omega⟩
   ·split at h
    ·cases h
    rename_i s t1 hs;obtain⟨a1,a2,a3,a4,a5⟩:=ih1 _ _ _ ht hs
    split at h
    ·cases h
    rename_i l' t2 hl;obtain⟨b1,b2,b3,b4,b5⟩:=ih3 _ _ _ (C0 ht a2) hl;cases h;refine⟨fun x hx=>?_,b2.trans a2,by omega,by rw[Sp.szs];omega,fun d hd=>?_⟩
    ·rcases Be.1 hx with rfl | hx
     ·exact a1
     ·exact b1 x hx
    ·have:=a5 d hd;have:=b5 d (by omega);rw[J6,Ao];omega
