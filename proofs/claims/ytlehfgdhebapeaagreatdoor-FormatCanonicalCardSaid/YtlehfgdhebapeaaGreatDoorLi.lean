/- Plain: what is parsed is shaped and not much longer than its tokens. -/
import Derived.Test.YtlehfgdhebapeaaGreatDoorLf
import Derived.Test.YtlehfgdhebapeaaGreatDoorLh
import Derived.Test.YtlehfgdhebapeaaGreatDoorGd
import Derived.Test.YtlehfgdhebapeaaGreatDoorGf
set_option linter.all false
namespace Go.Proofs.YtlehfgdhebapeaaGreatDoor.KM
open Go
theorem Xq{p:UInt8->Bool}:∀ {l:List UInt8} {x:UInt8},x∈l.takeWhile p->p x=true
 | [],x,h=>by cases h
 | c::l,x,h=>by
  rw[P0]at h
  split at h
  ·rename_i hc
   rcases Bm.1 h with rfl | h
   ·exact hc
   ·exact Xq h
  ·cases h
def C0(ts:List Tk):Prop:=∀ t∈ts,(t.kind=1->Cx t.text=true)/\(t.kind=2->0<=Gx t.text/\Gx t.text<=9223372036854775807)
theorem Ce{a b:List Tk}(h:C0 b)(hs:a <:+ b):C0 a:=fun t ht=>h t (hs.subset ht)
def wt(C:Nat)(ts:List Tk):Nat:=C*ts.length
theorem O8(C:Nat)(t:Tk)(ts:List Tk):wt C (t::ts)=C+wt C ts:=by unfold wt;rw[Ag,Nat.mul_add];omega
theorem I2{s:List UInt8}{ts:List Tk}{C:Nat}(h:Ak s ts=true):ts.tail <:+ ts/\ts.tail.length+1=ts.length/\wt C ts=C+wt C ts.tail:=by
 cases ts with
 | nil=>cases h
 | cons t r=>exact⟨Oo t r,rfl,O8 C t r⟩
theorem Asi{lvl:Nat}{ts:List Tk}{C:Nat}(h:Fp lvl ts≠0):ts.tail <:+ ts/\ts.tail.length+1=ts.length/\wt C ts=C+wt C ts.tail:=by
 cases ts with
 | nil=>exact absurd rfl h
 | cons t r=>exact⟨Oo t r,rfl,O8 C t r⟩
theorem Pl{l:List UInt8}(h:Cx l=true):l.length<=12:=by
 obtain⟨c,cs,rfl,-,-,h,-⟩:=Aaa h
 exact h
theorem Am3{op:Int}(h:6<=op/\op<=18)(x y:Xp):(Gy op x y).txt.length<=x.txt.length+y.txt.length+8:=by
 unfold Gy
 rw[Ah9 h]
 have h1:=(K5 (x.op,x.txt) (Fe op)).2
 have h2:=(K5 (y.op,y.txt) (As op+1)).2
 have h3:=(Wy (op:=op) ⟨by omega,by omega⟩).1
 simp only at h1 h2
 simp only[Al,Ag]
 omega
theorem Ao5{op:Int}(h:op=4\/op=5)(x:Xp):(Jd op x).txt.length<=x.txt.length+4:=by
 unfold Jd
 rw[(Ajf h).1]
 have h1:=(K5 (x.op,x.txt) 6).2
 have h3:=(Wy (op:=op) ⟨by omega,by omega⟩).1
 simp only at h1
 simp only[Al]
 omega
def XQ(C:Nat)(ts:List Tk)(x:Xp)(r:List Tk):Prop:=ShE x/\r <:+ ts/\r.length<ts.length/\x.txt.length+wt C r<=wt C ts
theorem Qx{C:Nat}(hC:25<=C):∀ n,(∀ lvl ts x r,C0 ts->pe n lvl ts=some (x,r)->XQ C ts x r) /\
  (∀ lvl x0 ts x r,C0 ts->ShE x0->lp n lvl x0 ts=some (x,r)->ShE x/\r <:+ ts/\r.length<=ts.length/\x.txt.length+wt C r<=x0.txt.length+wt C ts) /\
  (∀ ts x r,C0 ts->pu n ts=some (x,r)->XQ C ts x r)/\(∀ ts x r,C0 ts->pp n ts=some (x,r)->XQ C ts x r)
 | 0=>⟨fun _ _ _ _ _ h=>by simp[pe]at h,fun _ _ _ _ _ _ _ h=>by simp[lp]at h,fun _ _ _ _ h=>by simp[pu]at h,fun _ _ _ _ h=>by simp[pp]at h⟩
 | n+1=>by
  obtain⟨ih1,ih2,ih3,ih4⟩:=Qx hC n
  refine⟨fun lvl ts x r ht h=>?_,fun lvl x0 ts x r ht h0 h=>?_,fun ts x r ht h=>?_,fun ts x r ht h=>?_⟩
  ·rw[pe]at h
   split at h
   ·exact ih3 ts x r ht h
   ·split at h
    ·cases h
    ·rename_i y q hy
     obtain⟨a1,a2,a3,a4⟩:=ih1 _ _ _ _ ht hy
     obtain⟨b1,b2,b3,b4⟩:=ih2 _ _ _ _ _ (Ce ht a2) a1 h
     exact⟨b1,b2.trans a2,by omega,by omega⟩
  ·rw[lp]at h
   split at h
   ·cases h
    exact⟨h0,Yx _,Af _,Af _⟩
   ·rename_i ho
    obtain⟨t1,t2,t3⟩:=Asi (C:=C) ho
    obtain⟨o1,-,-⟩:=Ao4 ho
    split at h
    ·cases h
    ·rename_i y q hy
     obtain⟨a1,a2,a3,a4⟩:=ih1 _ _ _ _ (Ce ht t1) hy
     have hs:ShE (Gy (Fp lvl ts) x0 y):=.bin o1 h0 a1
     have hb:=Am3 o1 x0 y
     split at h
     ·cases h
      exact⟨hs,a2.trans t1,by omega,by omega⟩
     ·obtain⟨b1,b2,b3,b4⟩:=ih2 _ _ _ _ _ (Ce (Ce ht t1) a2) hs h
      exact⟨b1,(b2.trans a2).trans t1,by omega,by omega⟩
  ·have un:∀ (op:Int),op=4\/op=5->∀ s,Ak s ts=true->(match pu n ts.tail with
     | none=>none
     | some (x,r)=>some (Jd op x,r))=some (x,r)->XQ C ts x r:=fun op ho s hs h=>by
    obtain⟨t1,t2,t3⟩:=I2 (C:=C) hs
    split at h
    ·cases h
    ·rename_i y q hy
     cases h
     obtain⟨a1,a2,a3,a4⟩:=ih3 _ _ _ (Ce ht t1) hy
     have:=Ao5 ho y
     exact⟨.un ho a1,a2.trans t1,by omega,by omega⟩
   rw[pu]at h
   split at h
   ·rename_i hs;exact un 4 (.inl rfl) _ hs h
   ·split at h
    ·rename_i hs;exact un 5 (.inr rfl) _ hs h
    ·exact ih4 ts x r ht h
  ·cases ts with
   | nil=>simp[pp]at h
   | cons t ts=>
    have hw:=O8 C t ts
    have hsf:=Oo t ts
    have htl:=Ce ht hsf
    obtain⟨k1,k2⟩:=ht t Co
    rw[pp]at h
    split at h
    ·rename_i hk
     cases h
     refine⟨.num (k2 hk),hsf,by simp,?_⟩
     have:=L5 (Gx t.text)
     rw[F9]
     simp only[Dk,if_true]
     omega
    ·split at h
     ·rename_i hk
      have hn:=k1 hk
      have hnl:=Pl hn
      split at h
      ·rename_i hs
       obtain⟨t1,t2,t3⟩:=I2 (C:=C) hs
       split at h
       ·cases h
       ·rename_i y q hy
        obtain⟨a1,a2,a3,a4⟩:=ih1 _ _ _ _ (Ce htl t1) hy
        split at h
        ·rename_i hs2
         obtain⟨u1,u2,u3⟩:=I2 (C:=C) hs2
         cases h
         refine⟨.idx hn a1,((u1.trans a2).trans t1).trans hsf,by simp only[Ag];omega,?_⟩
         rw[F9]
         simp[Dk]
         omega
        ·cases h
      ·cases h
       refine⟨.name hn,hsf,by simp,?_⟩
       rw[F9]
       simp only[Dk,show((2:Int)=1)=False from eq_false (by omega),if_false,if_true]
       omega
     ·split at h
      ·split at h
       ·cases h
       ·rename_i y q hy
        obtain⟨a1,a2,a3,a4⟩:=ih1 _ _ _ _ htl hy
        split at h
        ·rename_i hs2
         obtain⟨u1,u2,u3⟩:=I2 (C:=C) hs2
         cases h
         exact⟨a1,(u1.trans a2).trans hsf,by simp only[Ag];omega,by omega⟩
        ·cases h
      ·cases h
/-! scanning gives right tokens -/
theorem Q6:∀ (n:Nat) (ln:Int) (l:List UInt8) (ts:List Tk),B7 n ln l=some ts->C0 ts
 | n,ln,[],ts,h=>by
  have:B7 n ln []=some []:=by cases n<;>rfl
  rw[this]at h
  cases h
  intro t ht;cases ht
 | 0,ln,c::r,ts,h=>by cases h
 | n+1,ln,c::r,ts,h=>by
  rw[B7]at h
  split at h
  ·exact Q6 n _ _ _ h
  ·split at h
   ·exact Q6 n _ _ _ h
   ·split at h
    ·exact Q6 n _ _ _ h
    ·split at h
     ·cases h
     ·rename_i k w hf
      simp only[A8]at h
      obtain⟨l,hl,rfl⟩:=h
      intro t ht
      rcases Bm.1 ht with rfl | ht
      ·rw[Kz]at hf
       simp only
       split at hf
       ·rename_i hc
        split at hf
        ·cases hf
        ·rename_i h12
         cases hf
         refine⟨fun hk=>?_,fun hk=>?_⟩
         ·split at hk
          ·cases hk
          ·rename_i hkw
           refine Avf (by simp[Dq]) (by omega) (by simpa using hkw) fun j hj=>?_
           have hin:∀ d∈Dq c r,Fx d=true:=fun d hd=>by
            rcases Bm.1 hd with rfl | hd
            ·exact(Aaw hc).2.2.2
            ·exact Xq hd
           cases j with
           | zero=>
            have h1:Po c.toNat=true:=hc
            simp[Sa,Dq,h1]
           | succ j=>
            have hm:((Dq c r).getD (j+1) 0)∈Dq c r:=by rw[Am,Az hj];exact E1 _
            have hi:=hin _ hm
            unfold Fx Oh at hi
            unfold Sa
            simp only[Hu,Ad,decide_eq_true_eq]at hi ⊢
            rcases hi with h | h | h
            ·exact .inl h
            ·exact .inr ⟨by omega,.inr h⟩
            ·exact .inr ⟨by omega,.inl h⟩
         ·split at hk<;>cases hk
       ·split at hf
        ·rename_i hc
         split at hf
         ·cases hf
         ·split at hf
          ·rename_i hok
           cases hf
           refine⟨(fun hk=>by cases hk),fun _=>?_⟩
           have hd:He (De c r):=fun d hd=>by
            rcases Bm.1 hd with rfl | hd
            ·exact hc
            ·exact Xq hd
           rw[Zt hd]at hok
           have hv:=of_decide_eq_true hok
           have:=Aac hd hv
           unfold De at hv ⊢
           rw[this]
           omega
          ·cases hf
        ·split at hf
         ·cases hf
         ·cases hf
          exact⟨(fun hk=>by cases hk),(fun hk=>by cases hk)⟩
      ·exact Q6 n _ _ _ hl t ht
/-! statements -/
def U4(C:Nat)(ts r:List Tk):Prop:=r <:+ ts/\r.length+1=ts.length/\wt C ts=C+wt C r
theorem Agu(C:Nat)(t:Tk)(r:List Tk):U4 C (t::r) r:=⟨Oo t r,rfl,O8 C t r⟩
theorem Oz{C:Nat}{ts r:List Tk}{nm:List UInt8}(ht:C0 ts)(h:B8 ts=some (nm,r)):Cx nm=true/\U4 C ts r:=by
 cases ts with
 | nil=>cases h
 | cons t ts=>
  unfold B8 at h
  simp only at h
  split at h
  ·rename_i hk
   cases h
   exact⟨(ht t Co).1 hk,Agu C t _⟩
  ·cases h
theorem Ik{C:Nat}{s:List UInt8}{ts r:List Tk}(h:Ct s ts=some r):U4 C ts r:=by
 unfold Ct at h
 split at h
 ·rename_i hs
  cases h
  obtain⟨h1,h2,h3⟩:=I2 (C:=C) hs
  exact⟨h1,h2,h3⟩
 ·cases h
theorem Wk{C:Nat}{ts r:List Tk}{n:Int}(ht:C0 ts)(h:Fg ts=some (n,r)):(0<=n/\n<=9223372036854775807)/\U4 C ts r:=by
 cases ts with
 | nil=>cases h
 | cons t ts=>
  unfold Fg at h
  simp only at h
  split at h
  ·rename_i hk
   cases h
   exact⟨(ht t Co).2 hk,Agu C t _⟩
  ·cases h
theorem Zf:∀ {l:List (List UInt8 × Int)} {s:List UInt8} {v:Int},l.lookup s=some v->∃ a,(a,v)∈l
 | [],_,_,h=>by cases h
 | (a,w)::l,s,v,h=>by
  rw[Ve]at h
  split at h
  ·cases h;exact⟨a,Co⟩
  ·obtain⟨b,hb⟩:=Zf h;exact⟨b,Cb _ hb⟩
theorem Agv(s:List UInt8):C7 s=0\/(2<=C7 s/\C7 s<=15):=by
 unfold C7
 cases h:wordTab.lookup s with
 | none=>exact .inl rfl
 | some v=>
  obtain⟨a,ha⟩:=Zf h
  have:(wordTab.all fun p=>decide (2<=p.2/\p.2<=15))=true:=by decide
  exact .inr (of_decide_eq_true (A5.1 this (a,v) ha))
theorem Agw(s:List UInt8):Ff s=0\/(1<=Ff s/\Ff s<=6):=by
 unfold Ff
 cases h:declTab.lookup s with
 | none=>exact .inl rfl
 | some v=>
  obtain⟨a,ha⟩:=Zf h
  have:(declTab.all fun p=>decide (1<=p.2/\p.2<=6))=true:=by decide
  exact .inr (of_decide_eq_true (A5.1 this (a,v) ha))
def I8(s:Sp):Nat:=if Ee s.op then s.ex.txt.length else 0
theorem Asj(op:Int):(B2 op).length<=11:=by
 unfold B2
 split<;>simp
theorem Ask(s:Sp):(B6 s).length<=20+s.nm.length+s.arg.length+(Eh s.idx).length+I8 s:=by
 have hw:=Asj s.op
 unfold B6 I8 Ee
 by_cases h1:s.op=1
 ·simp[h1];omega
 by_cases h2:s.op=2
 ·rw[h2]at hw;simp[h2];omega
 by_cases h3:s.op=3
 ·rw[h3]at hw;simp[h3];omega
 by_cases h14:s.op=14
 ·rw[h14]at hw;simp[h14];omega
 rw[if_neg h1,if_neg (by omega)]
 split
 ·omega
 ·try rw[if_neg h14]
  split
  ·simp;omega
  ·simp;omega
theorem Av1(d:Nat)(s:Sp):(s.txt d).length<=6*d+40+s.nm.length+s.arg.length+(Eh s.idx).length+I8 s+(if Bk s.op then(Sp.txts (d+1) s.body).length+(Sp.txts (d+1) s.els).length else 0):=by
 have hh:=Ask s
 rw[M9]
 have h5:(if s.els.isEmpty=true then [] else Es d++125::32::101::108::115::101::32::123::10::Sp.txts (d+1) s.els).length<=2*d+9+(Sp.txts (d+1) s.els).length:=by
  split
  ·simp
  ·simp[Im];omega
 cases Bk s.op
 ·simp only[Al,Im,Dr,if_false,Ag,Br]
  omega
 ·simp only[Al,Im,if_true,Ag,Br]
  omega
def SQ(M C:Nat)(ts:List Tk)(s:Sp)(r:List Tk):Prop:=ShS s/\r <:+ ts/\r.length<ts.length/\s.sz+r.length<=ts.length/\∀ d,d+ts.length<=M->(s.txt d).length+wt C r<=wt C ts
def LQ(M C:Nat)(ts:List Tk)(l:List Sp)(r:List Tk):Prop:=(∀ s∈l,ShS s)/\r <:+ ts/\r.length<ts.length/\Sp.szs l+r.length<ts.length/\∀ d,d+ts.length<=M->(Sp.txts d l).length+wt C r<=wt C ts
theorem N3{M C:Nat}(hC:100+8*M<=C){ts r:List Tk}{s:Sp}(hs:ShS s)(h1:r <:+ ts)(h2:r.length<ts.length)(h3:Sp.szs s.body+Sp.szs s.els+1+r.length<=ts.length)
  (h4:∀ d,d+ts.length<=M->C+(Eh s.idx).length+I8 s+((Sp.txts (d+1) s.body).length+(Sp.txts (d+1) s.els).length)+wt C r<=wt C ts):SQ M C ts s r:=by
 refine⟨hs,h1,h2,by rw[Q9];omega,fun d hd=>?_⟩
 have h5:=h4 d hd
 have h6:=Av1 d s
 have h7:s.nm.length<=12/\s.arg.length<=12:=by
  cases hs with
  | mk a1 a2 a3 a4 a5 _ _ _ _ _ _ _ _ _=>
   constructor
   ·cases hn:G3 s.op
    ·exact Pl (a3 hn)
    ·rw[a2 hn];exact Bj _
   ·by_cases ha:s.op=15
    ·exact Pl (a4 ha)
    ·rw[a5 ha];exact Bj _
 have h8:(if Bk s.op then(Sp.txts (d+1) s.body).length+(Sp.txts (d+1) s.els).length else 0)<=(Sp.txts (d+1) s.body).length+(Sp.txts (d+1) s.els).length:=by
  split
  ·exact Af _
  ·exact Bj _
 omega
theorem Aly{M C:Nat}(hC:100+8*M<=C){n:Nat}{line:Int}{ts:List Tk}{s:Sp}{r:List Tk}(ht:C0 ts)(h:Mk n line ts=some (s,r)):SQ M C ts s r:=by
 unfold Mk at h
 split at h
 ·cases h
 rename_i nm t1 hn
 obtain⟨n1,n2,n3,n4⟩:=Oz (C:=C) ht hn
 have ht1:=Ce ht n2
 split at h
 ·cases h
 rename_i ix t2 hi
 have hix:ix.length<=1/\(∀ x∈ix,ShE x)/\t2 <:+ t1/\t2.length<=t1.length/\(Eh ix).length+wt C t2<=wt C t1:=by
  unfold Ux at hi
  split at hi
  ·rename_i hs
   obtain⟨u1,u2,u3⟩:=I2 (C:=C) hs
   split at hi
   ·cases hi
   ·rename_i x q hx
    obtain⟨a1,a2,a3,a4⟩:=(Qx (C:=C) (by omega) n).1 _ _ _ _ (Ce ht1 u1) hx
    simp only[A8]at hi
    obtain⟨q',hq,hi⟩:=hi
    cases hi
    obtain⟨b1,b2,b3⟩:=Ik (C:=C) hq
    have:=Af7 [x]
    simp only at this
    exact⟨by simp,by simpa using a1,(b1.trans a2).trans u1,by omega,by omega⟩
  ·cases hi
   exact⟨by simp,by simp,Yx _,Af _,by simp[Eh]⟩
 obtain⟨i1,i2,i3,i4,i5⟩:=hix
 have ht2:=Ce ht1 i3
 split at h
 ·cases h
 rename_i t3 h3
 obtain⟨c1,c2,c3⟩:=Ik (C:=C) h3
 have ht3:=Ce ht2 c1
 split at h
 ·cases h
 rename_i x t4 hx
 obtain⟨a1,a2,a3,a4⟩:=(Qx (C:=C) (by omega) n).1 _ _ _ _ ht3 hx
 simp only[A8]at h
 obtain⟨t5,h5,h⟩:=h
 cases h
 obtain⟨d1,d2,d3⟩:=Ik (C:=C) h5
 refine N3 hC (.mk ⟨by simp[Aj],by simp[Aj]⟩ (by simp[Aj,G3]) (fun _=>n1) (by simp[Aj]) (by simp[Aj]) i1 (by simp[Aj]) i2 (fun _=>a1) (by simp[Aj,Ee]) (by simp[Aj]) (by simp[Aj]) (by simp[Aj]) (by simp[Aj])) ((((d1.trans a2).trans c1).trans i3).trans n2) (by omega) (by simp[Aj,Sp.szs];omega) fun d hd=>?_
 simp only[Aj,I8,Ee,Sp.txts,Br]
 simp
 omega
theorem Wl{M C:Nat}(hC:100+8*M<=C):∀ n,(∀ ts s r,C0 ts->Ei n ts=some (s,r)->SQ M C ts s r)/\(∀ ts l r,C0 ts->Dy n ts=some (l,r)->LQ (M+1) C ts l r)/\(∀ ts l r,C0 ts->Gm n ts=some (l,r)->LQ M C ts l r)
 | 0=>⟨fun _ _ _ _ h=>by simp[Ei]at h,fun _ _ _ _ h=>by simp[Dy]at h,fun _ _ _ _ h=>by simp[Gm]at h⟩
 | n+1=>by
  obtain⟨ih1,ih2,ih3⟩:=Wl hC n
  refine⟨fun ts s r ht h=>?_,fun ts l r ht h=>?_,fun ts l r ht h=>?_⟩
  ·cases ts with
   | nil=>simp[Ei]at h
   | cons t ts=>
    have hw:=O8 C t ts
    have hsf:=Oo t ts
    have htl:=Ce ht hsf
    rw[Ei]at h
    split at h
    ·exact Aly hC ht h
    split at h
    rotate_left
    ·cases h
    have hr:=Agv t.text
    generalize C7 t.text=w at h hr
    split at h
    ·cases h
    split at h
    ·rename_i hw23
     split at h
     ·cases h
     rename_i x t1 hx
     obtain⟨a1,a2,a3,a4⟩:=(Qx (C:=C) (by omega) n).1 _ _ _ _ htl hx
     have ht1:=Ce htl a2
     split at h
     ·cases h
     rename_i b t2 hb
     obtain⟨b1,b2,b3,b4,b5⟩:=ih2 _ _ _ ht1 hb
     have ht2:=Ce ht1 b2
     split at h
     ·rename_i hw2
      obtain⟨rfl,hs⟩:=hw2
      obtain⟨u1,u2,u3⟩:=I2 (C:=C) hs
      split at h
      ·cases h
      rename_i e t3 he
      obtain⟨e1,e2,e3,e4,e5⟩:=ih2 _ _ _ (Ce ht2 u1) he
      cases h
      refine N3 hC (.mk ⟨by simp[Aj],by simp[Aj]⟩ (by simp[Aj]) (by simp[Aj,G3]) (by simp[Aj]) (by simp[Aj]) (by simp[Aj]) (by simp[Aj]) (by simp[Aj]) (fun _=>a1) (by simp[Aj,Ee]) (by simp[Aj,Bk]) (by simp[Aj]) b1 e1) ((((e2.trans u1).trans b2).trans a2).trans hsf) (by simp only[Ag];omega) (by simp only[Ag];omega) fun d hd=>?_
      rw[Ag]at hd
      have:=b5 (d+1) (by omega)
      have:=e5 (d+1) (by omega)
      simp only[Aj,I8,Ee,Eh,Br]
      simp
      omega
     ·cases h
      refine N3 hC (.mk (by simp only[Aj];omega) (by simp[Aj]) (by rcases hw23 with rfl | rfl<;>simp[Aj,G3]) (by simp[Aj];omega) (by simp[Aj]) (by simp[Aj]) (by simp[Aj]) (by simp[Aj]) (fun _=>a1) (by rcases hw23 with rfl | rfl<;>simp[Aj,Ee]) (by rcases hw23 with rfl | rfl<;>simp[Aj,Bk]) (by simp[Aj]) b1 (by simp[Aj])) ((b2.trans a2).trans hsf) (by simp only[Ag];omega) (by simp only[Aj,Ag,Sp.szs];omega) fun d hd=>?_
      rw[Ag]at hd
      have:=b5 (d+1) (by omega)
      have:Ee w=true:=by rcases hw23 with rfl | rfl<;>rfl
      simp only[Aj,I8,this,Eh,Br,if_true,Sp.txts]
      omega
    ·split at h
     ·rename_i hw78
      split at h
      ·cases h
      rename_i b t2 hb
      obtain⟨b1,b2,b3,b4,b5⟩:=ih2 _ _ _ htl hb
      cases h
      refine N3 hC (.mk (by simp only[Aj];omega) (by simp[Aj]) (by rcases hw78 with rfl | rfl<;>simp[Aj,G3]) (by simp[Aj];omega) (by simp[Aj]) (by simp[Aj]) (by simp[Aj]) (by simp[Aj]) (by rcases hw78 with rfl | rfl<;>simp[Aj,Ee]) (fun _=>⟨rfl,rfl,rfl,rfl⟩) (by rcases hw78 with rfl | rfl<;>simp[Aj,Bk]) (by simp[Aj]) b1 (by simp[Aj])) (b2.trans hsf) (by simp only[Ag];omega) (by simp only[Aj,Ag,Sp.szs];omega) fun d hd=>?_
      rw[Ag]at hd
      have:=b5 (d+1) (by omega)
      have:Ee w=false:=by rcases hw78 with rfl | rfl<;>rfl
      simp only[Aj,I8,this,Eh,Br,Dr,if_false,Sp.txts]
      omega
     ·split at h
      ·cases h
      rename_i nm t1 hn
      obtain⟨n1,n2,n3,n4⟩:=Oz (C:=C) htl hn
      have ht1:=Ce htl n2
      split at h
      ·rename_i hw456
       split at h
       ·cases h
       rename_i b t2 hb
       obtain⟨b1,b2,b3,b4,b5⟩:=ih2 _ _ _ ht1 hb
       cases h
       refine N3 hC (.mk (by simp only[Aj];omega) (by rcases hw456 with rfl | rfl | rfl<;>simp[Aj,G3]) (fun _=>n1) (by simp[Aj];omega) (by simp[Aj]) (by simp[Aj]) (by simp[Aj]) (by simp[Aj]) (by rcases hw456 with rfl | rfl | rfl<;>simp[Aj,Ee]) (fun _=>⟨rfl,rfl,rfl,rfl⟩) (by rcases hw456 with rfl | rfl | rfl<;>simp[Aj,Bk]) (by simp[Aj]) b1 (by simp[Aj])) ((b2.trans n2).trans hsf) (by simp only[Ag];omega) (by simp only[Aj,Ag,Sp.szs];omega) fun d hd=>?_
       rw[Ag]at hd
       have:=b5 (d+1) (by omega)
       have:Ee w=false:=by rcases hw456 with rfl | rfl | rfl<;>rfl
       simp only[Aj,I8,this,Eh,Br,Dr,if_false,Sp.txts]
       omega
      ·split at h
       ·rename_i hw14
        subst hw14
        split at h
        ·cases h
        rename_i x t2 hx
        obtain⟨a1,a2,a3,a4⟩:=(Qx (C:=C) (by omega) n).1 _ _ _ _ ht1 hx
        simp only[A8]at h
        obtain⟨t3,h3,h⟩:=h
        cases h
        obtain⟨d1,d2,d3⟩:=Ik (C:=C) h3
        refine N3 hC (.mk ⟨by simp[Aj],by simp[Aj]⟩ (by simp[Aj,G3]) (fun _=>n1) (by simp[Aj]) (by simp[Aj]) (by simp[Aj]) (by simp[Aj]) (by simp[Aj]) (fun _=>a1) (by simp[Aj,Ee]) (by simp[Aj]) (by simp[Aj]) (by simp[Aj]) (by simp[Aj])) (((d1.trans a2).trans n2).trans hsf) (by simp only[Ag];omega) (by simp only[Aj,Ag,Sp.szs];omega) fun d hd=>?_
        simp only[Aj,I8,Ee,Eh,Br,Sp.txts]
        simp
        omega
       ·split at h
        ·rename_i hw15
         subst hw15
         split at h
         ·cases h
         rename_i ar t2 ha
         obtain⟨a1,a2,a3,a4⟩:=Oz (C:=C) ht1 ha
         simp only[A8]at h
         obtain⟨t3,h3,h⟩:=h
         cases h
         obtain⟨d1,d2,d3⟩:=Ik (C:=C) h3
         refine N3 hC (.mk ⟨by simp[Aj],by simp[Aj]⟩ (by simp[Aj,G3]) (fun _=>n1) (fun _=>a1) (by simp[Aj]) (by simp[Aj]) (by simp[Aj]) (by simp[Aj]) (by simp[Aj,Ee]) (fun _=>⟨rfl,rfl,rfl,rfl⟩) (by simp[Aj]) (by simp[Aj]) (by simp[Aj]) (by simp[Aj])) (((d1.trans a2).trans n2).trans hsf) (by simp only[Ag];omega) (by simp only[Aj,Ag,Sp.szs];omega) fun d hd=>?_
         simp only[Aj,I8,Ee,Eh,Br,Sp.txts]
         simp
         omega
        ·simp only[A8]at h
         obtain⟨t3,h3,h⟩:=h
         cases h
         obtain⟨d1,d2,d3⟩:=Ik (C:=C) h3
         have hw5:w=9\/w=10\/w=11\/w=12\/w=13:=by omega
         refine N3 hC (.mk (by simp only[Aj];omega) (by rcases hw5 with rfl | rfl | rfl | rfl | rfl<;>simp[Aj,G3]) (fun _=>n1) (by simp[Aj];omega) (by simp[Aj]) (by simp[Aj]) (by simp[Aj]) (by simp[Aj]) (by rcases hw5 with rfl | rfl | rfl | rfl | rfl<;>simp[Aj,Ee]) (fun _=>⟨rfl,rfl,rfl,rfl⟩) (by simp[Aj]) (by simp[Aj]) (by simp[Aj]) (by simp[Aj])) ((d1.trans n2).trans hsf) (by simp only[Ag];omega) (by simp only[Aj,Ag,Sp.szs];omega) fun d hd=>?_
         have:Ee w=false:=by rcases hw5 with rfl | rfl | rfl | rfl | rfl<;>rfl
         simp only[Aj,I8,this,Eh,Br,Dr,if_false,Sp.txts]
         omega
  ·rw[Dy]at h
   split at h
   ·rename_i hs
    obtain⟨u1,u2,u3⟩:=I2 (C:=C) hs
    obtain⟨b1,b2,b3,b4,b5⟩:=ih3 _ _ _ (Ce ht u1) h
    exact⟨b1,b2.trans u1,by omega,by omega,fun d hd=>by have:=b5 d (by omega);omega⟩
   ·cases h
  ·rw[Gm]at h
   split at h
   ·rename_i hs
    obtain⟨u1,u2,u3⟩:=I2 (C:=C) hs
    cases h
    exact⟨by simp,u1,by omega,by simp only[Sp.szs];omega,fun d hd=>by simp only[Sp.txts,Br];omega⟩
   ·split at h
    ·cases h
    rename_i s t1 hs
    obtain⟨a1,a2,a3,a4,a5⟩:=ih1 _ _ _ ht hs
    split at h
    ·cases h
    rename_i l' t2 hl
    obtain⟨b1,b2,b3,b4,b5⟩:=ih3 _ _ _ (Ce ht a2) hl
    cases h
    refine⟨fun x hx=>?_,b2.trans a2,by omega,by rw[Sp.szs];omega,fun d hd=>?_⟩
    ·rcases Bm.1 hx with rfl | hx
     ·exact a1
     ·exact b1 x hx
    ·have:=a5 d hd
     have:=b5 d (by omega)
     rw[J9,Al]
     omega
end Go.Proofs.YtlehfgdhebapeaaGreatDoor.KM
