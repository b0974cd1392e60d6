/- Plain: what is parsed is shaped and not much longer than its tokens. -/
import Derived.Test.YtcoeikinocflnaaGreatDoorLf
import Derived.Test.YtcoeikinocflnaaGreatDoorLh
import Derived.Test.YtcoeikinocflnaaGreatDoorGg
set_option linter.all false
namespace Go.Proofs.YtcoeikinocflnaaGreatDoor.KM
open Go
theorem Xr{p:UInt8->Bool}:∀ {l:List UInt8} {x:UInt8},x∈l.takeWhile p->p x=true
 | [],x,h=>by cases h
 | c::l,x,h=>by
  rw[Px]at h
  split at h
  ·rename_i hc
   rcases Br.1 h with rfl | h
   ·exact hc
   ·exact Xr h
  ·cases h
def C0(ts:List Tk):Prop:=∀ t∈ts,(t.kind=1->Dz t.text=true)/\(t.kind=2->0<=Gj t.text/\Gj t.text<=9223372036854775807)
theorem B9{a b:List Tk}(h:C0 b)(hs:a <:+ b):C0 a:=fun t ht=>h t (hs.subset ht)
def wt(C:Nat)(ts:List Tk):Nat:=C*ts.length
theorem O5(C:Nat)(t:Tk)(ts:List Tk):wt C (t::ts)=C+wt C ts:=by unfold wt;rw[Af,Nat.mul_add];omega
theorem I3{s:List UInt8}{ts:List Tk}{C:Nat}(h:Ai s ts=true):ts.tail <:+ ts/\ts.tail.length+1=ts.length/\wt C ts=C+wt C ts.tail:=by
 cases ts with
 | nil=>cases h
 | cons t r=>exact⟨Om t r,rfl,O5 C t r⟩
theorem At6{lvl:Nat}{ts:List Tk}{C:Nat}(h:Fa lvl ts≠0):ts.tail <:+ ts/\ts.tail.length+1=ts.length/\wt C ts=C+wt C ts.tail:=by
 cases ts with
 | nil=>exact absurd rfl h
 | cons t r=>exact⟨Om t r,rfl,O5 C t r⟩
theorem Pl{l:List UInt8}(h:Dz l=true):l.length<=12:=by
 obtain⟨c,cs,rfl,-,-,h,-⟩:=Ag9 h
 exact h
theorem Aob{op:Int}(h:6<=op/\op<=18)(x y:Xp):(Gk op x y).txt.length<=x.txt.length+y.txt.length+8:=by
 unfold Gk
 rw[Atx h]
 have h1:=(O3 (x.op,x.txt) (Fb op)).2
 have h2:=(O3 (y.op,y.txt) (Ap op+1)).2
 have h3:=(W7 (op:=op) ⟨by omega,by omega⟩).1
 simp only at h1 h2
 simp only[Aj,Af]
 omega
theorem Aqn{op:Int}(h:op=4\/op=5)(x:Xp):(Jd op x).txt.length<=x.txt.length+4:=by
 unfold Jd
 rw[(Ax0 h).1]
 have h1:=(O3 (x.op,x.txt) 6).2
 have h3:=(W7 (op:=op) ⟨by omega,by omega⟩).1
 simp only at h1
 simp only[Aj]
 omega
def XQ(C:Nat)(ts:List Tk)(x:Xp)(r:List Tk):Prop:=ShE x/\r <:+ ts/\r.length<ts.length/\x.txt.length+wt C r<=wt C ts
theorem Qx{C:Nat}(hC:25<=C):∀ n,(∀ lvl ts x r,C0 ts->pe n lvl ts=some (x,r)->XQ C ts x r) /\
  (∀ lvl x0 ts x r,C0 ts->ShE x0->lp n lvl x0 ts=some (x,r)->ShE x/\r <:+ ts/\r.length<=ts.length/\x.txt.length+wt C r<=x0.txt.length+wt C ts) /\
  (∀ ts x r,C0 ts->pu n ts=some (x,r)->XQ C ts x r)/\(∀ ts x r,C0 ts->pp n ts=some (x,r)->XQ C ts x r)
 | 0=>⟨fun _ _ _ _ _ h=>by simp[pe]at h,fun _ _ _ _ _ _ _ h=>by simp[lp]at h,fun _ _ _ _ h=>by simp[pu]at h,fun _ _ _ _ h=>by simp[pp]at h⟩
 | n+1=>by
  obtain⟨ih1,ih2,ih3,ih4⟩:=Qx hC n
  refine⟨fun lvl ts x r ht h=>?_,fun lvl x0 ts x r ht h0 h=>?_,fun ts x r ht h=>?_,fun ts x r ht h=>?_⟩
  ·rw[pe]at h
   split at h
   ·exact ih3 ts x r ht h
   ·split at h
    ·cases h
    ·rename_i y q hy
     obtain⟨a1,a2,a3,a4⟩:=ih1 _ _ _ _ ht hy
     obtain⟨b1,b2,b3,b4⟩:=ih2 _ _ _ _ _ (B9 ht a2) a1 h
     exact⟨b1,b2.trans a2,by omega,by omega⟩
  ·rw[lp]at h
   split at h
   ·cases h
    exact⟨h0,Yz _,Ah _,Ah _⟩
   ·rename_i ho
    obtain⟨t1,t2,t3⟩:=At6 (C:=C) ho
    obtain⟨o1,-,-⟩:=Aqm ho
    split at h
    ·cases h
    ·rename_i y q hy
     obtain⟨a1,a2,a3,a4⟩:=ih1 _ _ _ _ (B9 ht t1) hy
     have hs:ShE (Gk (Fa lvl ts) x0 y):=.bin o1 h0 a1
     have hb:=Aob o1 x0 y
     split at h
     ·cases h
      exact⟨hs,a2.trans t1,by omega,by omega⟩
     ·obtain⟨b1,b2,b3,b4⟩:=ih2 _ _ _ _ _ (B9 (B9 ht t1) a2) hs h
      exact⟨b1,(b2.trans a2).trans t1,by omega,by omega⟩
  ·have un:∀ (op:Int),op=4\/op=5->∀ s,Ai s ts=true->(match pu n ts.tail with
     | none=>none
     | some (x,r)=>some (Jd op x,r))=some (x,r)->XQ C ts x r:=fun op ho s hs h=>by
    obtain⟨t1,t2,t3⟩:=I3 (C:=C) hs
    split at h
    ·cases h
    ·rename_i y q hy
     cases h
     obtain⟨a1,a2,a3,a4⟩:=ih3 _ _ _ (B9 ht t1) hy
     have:=Aqn ho y
     exact⟨.un ho a1,a2.trans t1,by omega,by omega⟩
   rw[pu]at h
   split at h
   ·rename_i hs;exact un 4 (.inl rfl) _ hs h
   ·split at h
    ·rename_i hs;exact un 5 (.inr rfl) _ hs h
    ·exact ih4 ts x r ht h
  ·cases ts with
   | nil=>simp[pp]at h
   | cons t ts=>
    have hw:=O5 C t ts
    have hsf:=Om t ts
    have htl:=B9 ht hsf
    obtain⟨k1,k2⟩:=ht t Dm
    rw[pp]at h
    split at h
    ·rename_i hk
     cases h
     refine⟨.num (k2 hk),hsf,by simp,?_⟩
     have:=Aa5 (Gj t.text)
     rw[Fw]
     simp only[D6,if_true]
     omega
    ·split at h
     ·rename_i hk
      have hn:=k1 hk
      have hnl:=Pl hn
      split at h
      ·rename_i hs
       obtain⟨t1,t2,t3⟩:=I3 (C:=C) hs
       split at h
       ·cases h
       ·rename_i y q hy
        obtain⟨a1,a2,a3,a4⟩:=ih1 _ _ _ _ (B9 htl t1) hy
        split at h
        ·rename_i hs2
         obtain⟨u1,u2,u3⟩:=I3 (C:=C) hs2
         cases h
         refine⟨.idx hn a1,((u1.trans a2).trans t1).trans hsf,by simp only[Af];omega,?_⟩
         rw[Fw]
         simp[D6]
         omega
        ·cases h
      ·cases h
       refine⟨.name hn,hsf,by simp,?_⟩
       rw[Fw]
       simp only[D6,show((2:Int)=1)=False from eq_false (by omega),if_false,if_true]
       omega
     ·split at h
      ·split at h
       ·cases h
       ·rename_i y q hy
        obtain⟨a1,a2,a3,a4⟩:=ih1 _ _ _ _ htl hy
        split at h
        ·rename_i hs2
         obtain⟨u1,u2,u3⟩:=I3 (C:=C) hs2
         cases h
         exact⟨a1,(u1.trans a2).trans hsf,by simp only[Af];omega,by omega⟩
        ·cases h
      ·cases h
/-! scanning gives right tokens -/
theorem Ra:∀ (n:Nat) (ln:Int) (l:List UInt8) (ts:List Tk),B1 n ln l=some ts->C0 ts
 | n,ln,[],ts,h=>by
  have:B1 n ln []=some []:=by cases n<;>rfl
  rw[this]at h
  cases h
  intro t ht;cases ht
 | 0,ln,c::r,ts,h=>by cases h
 | n+1,ln,c::r,ts,h=>by
  rw[B1]at h
  split at h
  ·exact Ra n _ _ _ h
  ·split at h
   ·exact Ra n _ _ _ h
   ·split at h
    ·exact Ra n _ _ _ h
    ·split at h
     ·cases h
     ·rename_i k w hf
      simp only[A0]at h
      obtain⟨l,hl,rfl⟩:=h
      intro t ht
      rcases Br.1 ht with rfl | ht
      ·rw[Lq]at hf
       simp only
       split at hf
       ·rename_i hc
        split at hf
        ·cases hf
        ·rename_i h12
         cases hf
         refine⟨fun hk=>?_,fun hk=>?_⟩
         ·split at hk
          ·cases hk
          ·rename_i hkw
           refine Axo (by simp[Dk]) (by omega) (by simpa using hkw) fun j hj=>?_
           have hin:∀ d∈Dk c r,F6 d=true:=fun d hd=>by
            rcases Br.1 hd with rfl | hd
            ·exact(Aiu hc).2.2.2
            ·exact Xr hd
           cases j with
           | zero=>
            have h1:Nz c.toNat=true:=hc
            simp[N6,Dk,h1]
           | succ j=>
            have hm:((Dk c r).getD (j+1) 0)∈Dk c r:=by rw[Ak,Aw hj];exact Fh _
            have hi:=hin _ hm
            unfold F6 N0 at hi
            unfold N6
            simp only[Is,Ae,decide_eq_true_eq]at hi ⊢
            rcases hi with h | h | h
            ·exact .inl h
            ·exact .inr ⟨by omega,.inr h⟩
            ·exact .inr ⟨by omega,.inl h⟩
         ·split at hk<;>cases hk
       ·split at hf
        ·rename_i hc
         split at hf
         ·cases hf
         ·split at hf
          ·rename_i hok
           cases hf
           refine⟨(fun hk=>by cases hk),fun _=>?_⟩
           have hd:Ha (Dh c r):=fun d hd=>by
            rcases Br.1 hd with rfl | hd
            ·exact hc
            ·exact Xr hd
           rw[Z5 hd]at hok
           have hv:=of_decide_eq_true hok
           have:=Aam hd hv
           unfold Dh at hv ⊢
           rw[this]
           omega
          ·cases hf
        ·split at hf
         ·cases hf
         ·cases hf
          exact⟨(fun hk=>by cases hk),(fun hk=>by cases hk)⟩
      ·exact Ra n _ _ _ hl t ht
/-! statements -/
def Vc(C:Nat)(ts r:List Tk):Prop:=r <:+ ts/\r.length+1=ts.length/\wt C ts=C+wt C r
theorem Ahf(C:Nat)(t:Tk)(r:List Tk):Vc C (t::r) r:=⟨Om t r,rfl,O5 C t r⟩
theorem Ov{C:Nat}{ts r:List Tk}{nm:List UInt8}(ht:C0 ts)(h:B4 ts=some (nm,r)):Dz nm=true/\Vc C ts r:=by
 cases ts with
 | nil=>cases h
 | cons t ts=>
  unfold B4 at h
  simp only at h
  split at h
  ·rename_i hk
   cases h
   exact⟨(ht t Dm).1 hk,Ahf C t _⟩
  ·cases h
theorem Ic{C:Nat}{s:List UInt8}{ts r:List Tk}(h:Co s ts=some r):Vc C ts r:=by
 unfold Co at h
 split at h
 ·rename_i hs
  cases h
  obtain⟨h1,h2,h3⟩:=I3 (C:=C) hs
  exact⟨h1,h2,h3⟩
 ·cases h
theorem Wx{C:Nat}{ts r:List Tk}{n:Int}(ht:C0 ts)(h:E0 ts=some (n,r)):(0<=n/\n<=9223372036854775807)/\Vc C ts r:=by
 cases ts with
 | nil=>cases h
 | cons t ts=>
  unfold E0 at h
  simp only at h
  split at h
  ·rename_i hk
   cases h
   exact⟨(ht t Dm).2 hk,Ahf C t _⟩
  ·cases h
theorem Zl:∀ {l:List (List UInt8 × Int)} {s:List UInt8} {v:Int},l.lookup s=some v->∃ a,(a,v)∈l
 | [],_,_,h=>by cases h
 | (a,w)::l,s,v,h=>by
  rw[Vq]at h
  split at h
  ·cases h;exact⟨a,Dm⟩
  ·obtain⟨b,hb⟩:=Zl h;exact⟨b,Db _ hb⟩
theorem Ahg(s:List UInt8):C2 s=0\/(2<=C2 s/\C2 s<=15):=by
 unfold C2
 cases h:wordTab.lookup s with
 | none=>exact .inl rfl
 | some v=>
  obtain⟨a,ha⟩:=Zl h
  have:(wordTab.all fun p=>decide (2<=p.2/\p.2<=15))=true:=by decide
  exact .inr (of_decide_eq_true (A3.1 this (a,v) ha))
theorem Ahh(s:List UInt8):Ez s=0\/(1<=Ez s/\Ez s<=6):=by
 unfold Ez
 cases h:declTab.lookup s with
 | none=>exact .inl rfl
 | some v=>
  obtain⟨a,ha⟩:=Zl h
  have:(declTab.all fun p=>decide (1<=p.2/\p.2<=6))=true:=by decide
  exact .inr (of_decide_eq_true (A3.1 this (a,v) ha))
def I6(s:Sp):Nat:=if Ec s.op then s.ex.txt.length else 0
theorem At7(op:Int):(Bt op).length<=11:=by
 unfold Bt
 split<;>simp
theorem At8(s:Sp):(Bv s).length<=20+s.nm.length+s.arg.length+(El s.idx).length+I6 s:=by
 have hw:=At7 s.op
 unfold Bv I6 Ec
 by_cases h1:s.op=1
 ·simp[h1];omega
 by_cases h2:s.op=2
 ·rw[h2]at hw;simp[h2];omega
 by_cases h3:s.op=3
 ·rw[h3]at hw;simp[h3];omega
 by_cases h14:s.op=14
 ·rw[h14]at hw;simp[h14];omega
 rw[if_neg h1,if_neg (by omega)]
 split
 ·omega
 ·try rw[if_neg h14]
  split
  ·simp;omega
  ·simp;omega
theorem Ax5(d:Nat)(s:Sp):(s.txt d).length<=6*d+40+s.nm.length+s.arg.length+(El s.idx).length+I6 s+(if A8 s.op then(Sp.txts (d+1) s.body).length+(Sp.txts (d+1) s.els).length else 0):=by
 have hh:=At8 s
 rw[Ig]
 have h5:(if s.els.isEmpty=true then [] else Di d++125::32::101::108::115::101::32::123::10::Sp.txts (d+1) s.els).length<=2*d+9+(Sp.txts (d+1) s.els).length:=by
  split
  ·simp
  ·simp[I1];omega
 cases A8 s.op
 ·simp only[Aj,I1,Eh,if_false,Af,Cf]
  omega
 ·simp only[Aj,I1,if_true,Af,Cf]
  omega
def SQ(M C:Nat)(ts:List Tk)(s:Sp)(r:List Tk):Prop:=ShS s/\r <:+ ts/\r.length<ts.length/\s.sz+r.length<=ts.length/\∀ d,d+ts.length<=M->(s.txt d).length+wt C r<=wt C ts
def LQ(M C:Nat)(ts:List Tk)(l:List Sp)(r:List Tk):Prop:=(∀ s∈l,ShS s)/\r <:+ ts/\r.length<ts.length/\Sp.szs l+r.length<ts.length/\∀ d,d+ts.length<=M->(Sp.txts d l).length+wt C r<=wt C ts
theorem Np{M C:Nat}(hC:100+8*M<=C){ts r:List Tk}{s:Sp}(hs:ShS s)(h1:r <:+ ts)(h2:r.length<ts.length)(h3:Sp.szs s.body+Sp.szs s.els+1+r.length<=ts.length)
  (h4:∀ d,d+ts.length<=M->C+(El s.idx).length+I6 s+((Sp.txts (d+1) s.body).length+(Sp.txts (d+1) s.els).length)+wt C r<=wt C ts):SQ M C ts s r:=by
 refine⟨hs,h1,h2,by rw[L3];omega,fun d hd=>?_⟩
 have h5:=h4 d hd
 have h6:=Ax5 d s
 have h7:s.nm.length<=12/\s.arg.length<=12:=by
  cases hs with
  | mk a1 a2 a3 a4 a5 _ _ _ _ _ _ _ _ _=>
   constructor
   ·cases hn:Hy s.op
    ·exact Pl (a3 hn)
    ·rw[a2 hn];exact A5 _
   ·by_cases ha:s.op=15
    ·exact Pl (a4 ha)
    ·rw[a5 ha];exact A5 _
 have h8:(if A8 s.op then(Sp.txts (d+1) s.body).length+(Sp.txts (d+1) s.els).length else 0)<=(Sp.txts (d+1) s.body).length+(Sp.txts (d+1) s.els).length:=by
  split
  ·exact Ah _
  ·exact A5 _
 omega
theorem Amr{M C:Nat}(hC:100+8*M<=C){n:Nat}{line:Int}{ts:List Tk}{s:Sp}{r:List Tk}(ht:C0 ts)(h:Mc n line ts=some (s,r)):SQ M C ts s r:=by
 unfold Mc at h
 split at h
 ·cases h
 rename_i nm t1 hn
 obtain⟨n1,n2,n3,n4⟩:=Ov (C:=C) ht hn
 have ht1:=B9 ht n2
 split at h
 ·cases h
 rename_i ix t2 hi
 have hix:ix.length<=1/\(∀ x∈ix,ShE x)/\t2 <:+ t1/\t2.length<=t1.length/\(El ix).length+wt C t2<=wt C t1:=by
  unfold U2 at hi
  split at hi
  ·rename_i hs
   obtain⟨u1,u2,u3⟩:=I3 (C:=C) hs
   split at hi
   ·cases hi
   ·rename_i x q hx
    obtain⟨a1,a2,a3,a4⟩:=(Qx (C:=C) (by omega) n).1 _ _ _ _ (B9 ht1 u1) hx
    simp only[A0]at hi
    obtain⟨q',hq,hi⟩:=hi
    cases hi
    obtain⟨b1,b2,b3⟩:=Ic (C:=C) hq
    have:=Ap7 [x]
    simp only at this
    exact⟨by simp,by simpa using a1,(b1.trans a2).trans u1,by omega,by omega⟩
  ·cases hi
   exact⟨by simp,by simp,Yz _,Ah _,by simp[El]⟩
 obtain⟨i1,i2,i3,i4,i5⟩:=hix
 have ht2:=B9 ht1 i3
 split at h
 ·cases h
 rename_i t3 h3
 obtain⟨c1,c2,c3⟩:=Ic (C:=C) h3
 have ht3:=B9 ht2 c1
 split at h
 ·cases h
 rename_i x t4 hx
 obtain⟨a1,a2,a3,a4⟩:=(Qx (C:=C) (by omega) n).1 _ _ _ _ ht3 hx
 simp only[A0]at h
 obtain⟨t5,h5,h⟩:=h
 cases h
 obtain⟨d1,d2,d3⟩:=Ic (C:=C) h5
 refine Np hC (.mk ⟨by simp[Ag],by simp[Ag]⟩ (by simp[Ag,Hy]) (fun _=>n1) (by simp[Ag]) (by simp[Ag]) i1 (by simp[Ag]) i2 (fun _=>a1) (by simp[Ag,Ec]) (by simp[Ag]) (by simp[Ag]) (by simp[Ag]) (by simp[Ag])) ((((d1.trans a2).trans c1).trans i3).trans n2) (by omega) (by simp[Ag,Sp.szs];omega) fun d hd=>?_
 simp only[Ag,I6,Ec,Sp.txts,Cf]
 simp
 omega
theorem Wy{M C:Nat}(hC:100+8*M<=C):∀ n,(∀ ts s r,C0 ts->D8 n ts=some (s,r)->SQ M C ts s r)/\(∀ ts l r,C0 ts->Dw n ts=some (l,r)->LQ (M+1) C ts l r)/\(∀ ts l r,C0 ts->F7 n ts=some (l,r)->LQ M C ts l r)
 | 0=>⟨fun _ _ _ _ h=>by simp[D8]at h,fun _ _ _ _ h=>by simp[Dw]at h,fun _ _ _ _ h=>by simp[F7]at h⟩
 | n+1=>by
  obtain⟨ih1,ih2,ih3⟩:=Wy hC n
  refine⟨fun ts s r ht h=>?_,fun ts l r ht h=>?_,fun ts l r ht h=>?_⟩
  ·cases ts with
   | nil=>simp[D8]at h
   | cons t ts=>
    have hw:=O5 C t ts
    have hsf:=Om t ts
    have htl:=B9 ht hsf
    rw[D8]at h
    split at h
    ·exact Amr hC ht h
    split at h
    rotate_left
    ·cases h
    have hr:=Ahg t.text
    generalize C2 t.text=w at h hr
    split at h
    ·cases h
    split at h
    ·rename_i hw23
     split at h
     ·cases h
     rename_i x t1 hx
     obtain⟨a1,a2,a3,a4⟩:=(Qx (C:=C) (by omega) n).1 _ _ _ _ htl hx
     have ht1:=B9 htl a2
     split at h
     ·cases h
     rename_i b t2 hb
     obtain⟨b1,b2,b3,b4,b5⟩:=ih2 _ _ _ ht1 hb
     have ht2:=B9 ht1 b2
     split at h
     ·rename_i hw2
      obtain⟨rfl,hs⟩:=hw2
      obtain⟨u1,u2,u3⟩:=I3 (C:=C) hs
      split at h
      ·cases h
      rename_i e t3 he
      obtain⟨e1,e2,e3,e4,e5⟩:=ih2 _ _ _ (B9 ht2 u1) he
      cases h
      refine Np hC (.mk ⟨by simp[Ag],by simp[Ag]⟩ (by simp[Ag]) (by simp[Ag,Hy]) (by simp[Ag]) (by simp[Ag]) (by simp[Ag]) (by simp[Ag]) (by simp[Ag]) (fun _=>a1) (by simp[Ag,Ec]) (by simp[Ag,A8]) (by simp[Ag]) b1 e1) ((((e2.trans u1).trans b2).trans a2).trans hsf) (by simp only[Af];omega) (by simp only[Af];omega) fun d hd=>?_
      rw[Af]at hd
      have:=b5 (d+1) (by omega)
      have:=e5 (d+1) (by omega)
      simp only[Ag,I6,Ec,El,Cf]
      simp
      omega
     ·cases h
      refine Np hC (.mk (by simp only[Ag];omega) (by simp[Ag]) (by rcases hw23 with rfl | rfl<;>simp[Ag,Hy]) (by simp[Ag];omega) (by simp[Ag]) (by simp[Ag]) (by simp[Ag]) (by simp[Ag]) (fun _=>a1) (by rcases hw23 with rfl | rfl<;>simp[Ag,Ec]) (by rcases hw23 with rfl | rfl<;>simp[Ag,A8]) (by simp[Ag]) b1 (by simp[Ag])) ((b2.trans a2).trans hsf) (by simp only[Af];omega) (by simp only[Ag,Af,Sp.szs];omega) fun d hd=>?_
      rw[Af]at hd
      have:=b5 (d+1) (by omega)
      have:Ec w=true:=by rcases hw23 with rfl | rfl<;>rfl
      simp only[Ag,I6,this,El,Cf,if_true,Sp.txts]
      omega
    ·split at h
     ·rename_i hw78
      split at h
      ·cases h
      rename_i b t2 hb
      obtain⟨b1,b2,b3,b4,b5⟩:=ih2 _ _ _ htl hb
      cases h
      refine Np hC (.mk (by simp only[Ag];omega) (by simp[Ag]) (by rcases hw78 with rfl | rfl<;>simp[Ag,Hy]) (by simp[Ag];omega) (by simp[Ag]) (by simp[Ag]) (by simp[Ag]) (by simp[Ag]) (by rcases hw78 with rfl | rfl<;>simp[Ag,Ec]) (fun _=>⟨rfl,rfl,rfl,rfl⟩) (by rcases hw78 with rfl | rfl<;>simp[Ag,A8]) (by simp[Ag]) b1 (by simp[Ag])) (b2.trans hsf) (by simp only[Af];omega) (by simp only[Ag,Af,Sp.szs];omega) fun d hd=>?_
      rw[Af]at hd
      have:=b5 (d+1) (by omega)
      have:Ec w=false:=by rcases hw78 with rfl | rfl<;>rfl
      simp only[Ag,I6,this,El,Cf,Eh,if_false,Sp.txts]
      omega
     ·split at h
      ·cases h
      rename_i nm t1 hn
      obtain⟨n1,n2,n3,n4⟩:=Ov (C:=C) htl hn
      have ht1:=B9 htl n2
      split at h
      ·rename_i hw456
       split at h
       ·cases h
       rename_i b t2 hb
       obtain⟨b1,b2,b3,b4,b5⟩:=ih2 _ _ _ ht1 hb
       cases h
       refine Np hC (.mk (by simp only[Ag];omega) (by rcases hw456 with rfl | rfl | rfl<;>simp[Ag,Hy]) (fun _=>n1) (by simp[Ag];omega) (by simp[Ag]) (by simp[Ag]) (by simp[Ag]) (by simp[Ag]) (by rcases hw456 with rfl | rfl | rfl<;>simp[Ag,Ec]) (fun _=>⟨rfl,rfl,rfl,rfl⟩) (by rcases hw456 with rfl | rfl | rfl<;>simp[Ag,A8]) (by simp[Ag]) b1 (by simp[Ag])) ((b2.trans n2).trans hsf) (by simp only[Af];omega) (by simp only[Ag,Af,Sp.szs];omega) fun d hd=>?_
       rw[Af]at hd
       have:=b5 (d+1) (by omega)
       have:Ec w=false:=by rcases hw456 with rfl | rfl | rfl<;>rfl
       simp only[Ag,I6,this,El,Cf,Eh,if_false,Sp.txts]
       omega
      ·split at h
       ·rename_i hw14
        subst hw14
        split at h
        ·cases h
        rename_i x t2 hx
        obtain⟨a1,a2,a3,a4⟩:=(Qx (C:=C) (by omega) n).1 _ _ _ _ ht1 hx
        simp only[A0]at h
        obtain⟨t3,h3,h⟩:=h
        cases h
        obtain⟨d1,d2,d3⟩:=Ic (C:=C) h3
        refine Np hC (.mk ⟨by simp[Ag],by simp[Ag]⟩ (by simp[Ag,Hy]) (fun _=>n1) (by simp[Ag]) (by simp[Ag]) (by simp[Ag]) (by simp[Ag]) (by simp[Ag]) (fun _=>a1) (by simp[Ag,Ec]) (by simp[Ag]) (by simp[Ag]) (by simp[Ag]) (by simp[Ag])) (((d1.trans a2).trans n2).trans hsf) (by simp only[Af];omega) (by simp only[Ag,Af,Sp.szs];omega) fun d hd=>?_
        simp only[Ag,I6,Ec,El,Cf,Sp.txts]
        simp
        omega
       ·split at h
        ·rename_i hw15
         subst hw15
         split at h
         ·cases h
         rename_i ar t2 ha
         obtain⟨a1,a2,a3,a4⟩:=Ov (C:=C) ht1 ha
         simp only[A0]at h
         obtain⟨t3,h3,h⟩:=h
         cases h
         obtain⟨d1,d2,d3⟩:=Ic (C:=C) h3
         refine Np hC (.mk ⟨by simp[Ag],by simp[Ag]⟩ (by simp[Ag,Hy]) (fun _=>n1) (fun _=>a1) (by simp[Ag]) (by simp[Ag]) (by simp[Ag]) (by simp[Ag]) (by simp[Ag,Ec]) (fun _=>⟨rfl,rfl,rfl,rfl⟩) (by simp[Ag]) (by simp[Ag]) (by simp[Ag]) (by simp[Ag])) (((d1.trans a2).trans n2).trans hsf) (by simp only[Af];omega) (by simp only[Ag,Af,Sp.szs];omega) fun d hd=>?_
         simp only[Ag,I6,Ec,El,Cf,Sp.txts]
         simp
         omega
        ·simp only[A0]at h
         obtain⟨t3,h3,h⟩:=h
         cases h
         obtain⟨d1,d2,d3⟩:=Ic (C:=C) h3
         have hw5:w=9\/w=10\/w=11\/w=12\/w=13:=by omega
         refine Np hC (.mk (by simp only[Ag];omega) (by rcases hw5 with rfl | rfl | rfl | rfl | rfl<;>simp[Ag,Hy]) (fun _=>n1) (by simp[Ag];omega) (by simp[Ag]) (by simp[Ag]) (by simp[Ag]) (by simp[Ag]) (by rcases hw5 with rfl | rfl | rfl | rfl | rfl<;>simp[Ag,Ec]) (fun _=>⟨rfl,rfl,rfl,rfl⟩) (by simp[Ag]) (by simp[Ag]) (by simp[Ag]) (by simp[Ag])) ((d1.trans n2).trans hsf) (by simp only[Af];omega) (by simp only[Ag,Af,Sp.szs];omega) fun d hd=>?_
         have:Ec w=false:=by rcases hw5 with rfl | rfl | rfl | rfl | rfl<;>rfl
         simp only[Ag,I6,this,El,Cf,Eh,if_false,Sp.txts]
         omega
  ·rw[Dw]at h
   split at h
   ·rename_i hs
    obtain⟨u1,u2,u3⟩:=I3 (C:=C) hs
    obtain⟨b1,b2,b3,b4,b5⟩:=ih3 _ _ _ (B9 ht u1) h
    exact⟨b1,b2.trans u1,by omega,by omega,fun d hd=>by have:=b5 d (by omega);omega⟩
   ·cases h
  ·rw[F7]at h
   split at h
   ·rename_i hs
    obtain⟨u1,u2,u3⟩:=I3 (C:=C) hs
    cases h
    exact⟨by simp,u1,by omega,by simp only[Sp.szs];omega,fun d hd=>by simp only[Sp.txts,Cf];omega⟩
   ·split at h
    ·cases h
    rename_i s t1 hs
    obtain⟨a1,a2,a3,a4,a5⟩:=ih1 _ _ _ ht hs
    split at h
    ·cases h
    rename_i l' t2 hl
    obtain⟨b1,b2,b3,b4,b5⟩:=ih3 _ _ _ (B9 ht a2) hl
    cases h
    refine⟨fun x hx=>?_,b2.trans a2,by omega,by rw[Sp.szs];omega,fun d hd=>?_⟩
    ·rcases Br.1 hx with rfl | hx
     ·exact a1
     ·exact b1 x hx
    ·have:=a5 d hd
     have:=b5 d (by omega)
     rw[J5,Aj]
     omega
end Go.Proofs.YtcoeikinocflnaaGreatDoor.KM
