/- Plain: what is parsed is shaped and not much longer than its tokens. -/
import Derived.Test.YtlehfgdhebapeaaGreatDoorLf
import Derived.Test.YtlehfgdhebapeaaGreatDoorLh
import Derived.Test.YtlehfgdhebapeaaGreatDoorGb
import Derived.Test.YtlehfgdhebapeaaGreatDoorGg
set_option linter.all false
namespace Go.Proofs.YtlehfgdhebapeaaGreatDoor.KM
open Go
theorem tw_mem{p:UInt8→Bool}:∀ {l:List UInt8} {x:UInt8},x∈l.takeWhile p→p x=true
 | [],x,h=>by cases h
 | c::l,x,h=>by
  rw[List.takeWhile_cons]at h
  split at h
  ·rename_i hc
   rcases List.mem_cons.1 h with rfl | h
   ·exact hc
   ·exact tw_mem h
  ·cases h
def TokOk(ts:List Tk):Prop:=∀ t∈ts,(t.kind=1→isNameE t.text=true)∧(t.kind=2→0≤numV t.text∧numV t.text≤9223372036854775807)
theorem tok_suf{a b:List Tk}(h:TokOk b)(hs:a <:+ b):TokOk a:=fun t ht=>h t (hs.subset ht)
def wt(C:Nat)(ts:List Tk):Nat:=C*ts.length
theorem wt_cons(C:Nat)(t:Tk)(ts:List Tk):wt C (t::ts)=C+wt C ts:=by unfold wt;rw[List.length_cons,Nat.mul_add];omega
theorem is_tail{s:List UInt8}{ts:List Tk}{C:Nat}(h:isT s ts=true):ts.tail <:+ ts∧ts.tail.length+1=ts.length∧wt C ts=C+wt C ts.tail:=by
 cases ts with
 | nil=>cases h
 | cons t r=>exact⟨List.suffix_cons t r,rfl,wt_cons C t r⟩
theorem op_tail{lvl:Nat}{ts:List Tk}{C:Nat}(h:opAt lvl ts≠0):ts.tail <:+ ts∧ts.tail.length+1=ts.length∧wt C ts=C+wt C ts.tail:=by
 cases ts with
 | nil=>exact absurd rfl h
 | cons t r=>exact⟨List.suffix_cons t r,rfl,wt_cons C t r⟩
theorem nm_le{l:List UInt8}(h:isNameE l=true):l.length≤12:=by
 obtain⟨c,cs,rfl,-,-,h,-⟩:=nm_parts h
 exact h
theorem bin_small{op:Int}(h:6≤op∧op≤18)(x y:Xp):(binX op x y).txt.length≤x.txt.length+y.txt.length+8:=by
 unfold binX
 rw[txt_bin h]
 have h1:=(put_len (x.op,x.txt) (leftE op)).2
 have h2:=(put_len (y.op,y.txt) (lvE op+1)).2
 have h3:=(sgl_len (op:=op) ⟨by omega,by omega⟩).1
 simp only at h1 h2
 simp only[List.length_append,List.length_cons]
 omega
theorem un_small{op:Int}(h:op=4∨op=5)(x:Xp):(unX op x).txt.length≤x.txt.length+4:=by
 unfold unX
 rw[(txt_un h).1]
 have h1:=(put_len (x.op,x.txt) 6).2
 have h3:=(sgl_len (op:=op) ⟨by omega,by omega⟩).1
 simp only at h1
 simp only[List.length_append]
 omega
def XQ(C:Nat)(ts:List Tk)(x:Xp)(r:List Tk):Prop:=ShE x∧r <:+ ts∧r.length<ts.length∧x.txt.length+wt C r≤wt C ts
theorem pe_shape{C:Nat}(hC:25≤C):∀ n,(∀ lvl ts x r,TokOk ts→pe n lvl ts=some (x,r)→XQ C ts x r) ∧
  (∀ lvl x0 ts x r,TokOk ts→ShE x0→lp n lvl x0 ts=some (x,r)→ShE x∧r <:+ ts∧r.length≤ts.length∧x.txt.length+wt C r≤x0.txt.length+wt C ts) ∧
  (∀ ts x r,TokOk ts→pu n ts=some (x,r)→XQ C ts x r)∧(∀ ts x r,TokOk ts→pp n ts=some (x,r)→XQ C ts x r)
 | 0=>⟨fun _ _ _ _ _ h=>by simp[pe]at h,fun _ _ _ _ _ _ _ h=>by simp[lp]at h,fun _ _ _ _ h=>by simp[pu]at h,fun _ _ _ _ h=>by simp[pp]at h⟩
 | n+1=>by
  obtain⟨ih1,ih2,ih3,ih4⟩:=pe_shape hC n
  refine⟨fun lvl ts x r ht h=>?_,fun lvl x0 ts x r ht h0 h=>?_,fun ts x r ht h=>?_,fun ts x r ht h=>?_⟩
  ·rw[pe]at h
   split at h
   ·exact ih3 ts x r ht h
   ·split at h
    ·cases h
    ·rename_i y q hy
     obtain⟨a1,a2,a3,a4⟩:=ih1 _ _ _ _ ht hy
     obtain⟨b1,b2,b3,b4⟩:=ih2 _ _ _ _ _ (tok_suf ht a2) a1 h
     exact⟨b1,b2.trans a2,by omega,by omega⟩
  ·rw[lp]at h
   split at h
   ·cases h
    exact⟨h0,List.suffix_refl _,Nat.le_refl _,Nat.le_refl _⟩
   ·rename_i ho
    obtain⟨t1,t2,t3⟩:=op_tail (C:=C) ho
    obtain⟨o1,-,-⟩:=opAt_all ho
    split at h
    ·cases h
    ·rename_i y q hy
     obtain⟨a1,a2,a3,a4⟩:=ih1 _ _ _ _ (tok_suf ht t1) hy
     have hs:ShE (binX (opAt lvl ts) x0 y):=.bin o1 h0 a1
     have hb:=bin_small o1 x0 y
     split at h
     ·cases h
      exact⟨hs,a2.trans t1,by omega,by omega⟩
     ·obtain⟨b1,b2,b3,b4⟩:=ih2 _ _ _ _ _ (tok_suf (tok_suf ht t1) a2) hs h
      exact⟨b1,(b2.trans a2).trans t1,by omega,by omega⟩
  ·have un:∀ (op:Int),op=4∨op=5→∀ s,isT s ts=true→(match pu n ts.tail with
     | none=>none
     | some (x,r)=>some (unX op x,r))=some (x,r)→XQ C ts x r:=fun op ho s hs h=>by
    obtain⟨t1,t2,t3⟩:=is_tail (C:=C) hs
    split at h
    ·cases h
    ·rename_i y q hy
     cases h
     obtain⟨a1,a2,a3,a4⟩:=ih3 _ _ _ (tok_suf ht t1) hy
     have:=un_small ho y
     exact⟨.un ho a1,a2.trans t1,by omega,by omega⟩
   rw[pu]at h
   split at h
   ·rename_i hs;exact un 4 (.inl rfl) _ hs h
   ·split at h
    ·rename_i hs;exact un 5 (.inr rfl) _ hs h
    ·exact ih4 ts x r ht h
  ·cases ts with
   | nil=>simp[pp]at h
   | cons t ts=>
    have hw:=wt_cons C t ts
    have hsf:=List.suffix_cons t ts
    have htl:=tok_suf ht hsf
    obtain⟨k1,k2⟩:=ht t List.mem_cons_self
    rw[pp]at h
    split at h
    ·rename_i hk
     cases h
     refine⟨.num (k2 hk),hsf,by simp,?_⟩
     have:=itoa_le (numV t.text)
     rw[xtxt_def]
     simp only[combE,if_true]
     omega
    ·split at h
     ·rename_i hk
      have hn:=k1 hk
      have hnl:=nm_le hn
      split at h
      ·rename_i hs
       obtain⟨t1,t2,t3⟩:=is_tail (C:=C) hs
       split at h
       ·cases h
       ·rename_i y q hy
        obtain⟨a1,a2,a3,a4⟩:=ih1 _ _ _ _ (tok_suf htl t1) hy
        split at h
        ·rename_i hs2
         obtain⟨u1,u2,u3⟩:=is_tail (C:=C) hs2
         cases h
         refine⟨.idx hn a1,((u1.trans a2).trans t1).trans hsf,by simp only[List.length_cons];omega,?_⟩
         rw[xtxt_def]
         simp[combE]
         omega
        ·cases h
      ·cases h
       refine⟨.name hn,hsf,by simp,?_⟩
       rw[xtxt_def]
       simp only[combE,show((2:Int)=1)=False from eq_false (by omega),if_false,if_true]
       omega
     ·split at h
      ·split at h
       ·cases h
       ·rename_i y q hy
        obtain⟨a1,a2,a3,a4⟩:=ih1 _ _ _ _ htl hy
        split at h
        ·rename_i hs2
         obtain⟨u1,u2,u3⟩:=is_tail (C:=C) hs2
         cases h
         exact⟨a1,(u1.trans a2).trans hsf,by simp only[List.length_cons];omega,by omega⟩
        ·cases h
      ·cases h
/-! scanning gives right tokens -/
theorem scan_ok:∀ (n:Nat) (ln:Int) (l:List UInt8) (ts:List Tk),scanE n ln l=some ts→TokOk ts
 | n,ln,[],ts,h=>by
  have:scanE n ln []=some []:=by cases n<;>rfl
  rw[this]at h
  cases h
  intro t ht;cases ht
 | 0,ln,c::r,ts,h=>by cases h
 | n+1,ln,c::r,ts,h=>by
  rw[scanE]at h
  split at h
  ·exact scan_ok n _ _ _ h
  ·split at h
   ·exact scan_ok n _ _ _ h
   ·split at h
    ·exact scan_ok n _ _ _ h
    ·split at h
     ·cases h
     ·rename_i k w hf
      simp only[Option.map_eq_some_iff]at h
      obtain⟨l,hl,rfl⟩:=h
      intro t ht
      rcases List.mem_cons.1 ht with rfl | ht
      ·rw[first_def]at hf
       simp only
       split at hf
       ·rename_i hc
        split at hf
        ·cases hf
        ·rename_i h12
         cases hf
         refine⟨fun hk=>?_,fun hk=>?_⟩
         ·split at hk
          ·cases hk
          ·rename_i hkw
           refine name_t (by simp[wrdE]) (by omega) (by simpa using hkw) fun j hj=>?_
           have hin:∀ d∈wrdE c r,innB d=true:=fun d hd=>by
            rcases List.mem_cons.1 hd with rfl | hd
            ·exact(letB_ne hc).2.2.2
            ·exact tw_mem hd
           cases j with
           | zero=>
            have h1:letN c.toNat=true:=hc
            simp[nmC,wrdE,h1]
           | succ j=>
            have hm:((wrdE c r).getD (j+1) 0)∈wrdE c r:=by rw[List.getD_eq_getElem?_getD,List.getElem?_eq_getElem hj];exact List.getElem_mem _
            have hi:=hin _ hm
            unfold innB innN at hi
            unfold nmC
            simp only[Bool.or_eq_true,Bool.and_eq_true,decide_eq_true_eq]at hi ⊢
            rcases hi with h | h | h
            ·exact .inl h
            ·exact .inr ⟨by omega,.inr h⟩
            ·exact .inr ⟨by omega,.inl h⟩
         ·split at hk<;>cases hk
       ·split at hf
        ·rename_i hc
         split at hf
         ·cases hf
         ·split at hf
          ·rename_i hok
           cases hf
           refine⟨(fun hk=>by cases hk),fun _=>?_⟩
           have hd:digs (digsE c r):=fun d hd=>by
            rcases List.mem_cons.1 hd with rfl | hd
            ·exact hc
            ·exact tw_mem hd
           rw[numOk_val hd]at hok
           have hv:=of_decide_eq_true hok
           have:=numV_val hd hv
           unfold digsE at hv ⊢
           rw[this]
           omega
          ·cases hf
        ·split at hf
         ·cases hf
         ·cases hf
          exact⟨(fun hk=>by cases hk),(fun hk=>by cases hk)⟩
      ·exact scan_ok n _ _ _ hl t ht
/-! statements -/
def One(C:Nat)(ts r:List Tk):Prop:=r <:+ ts∧r.length+1=ts.length∧wt C ts=C+wt C r
theorem one_cons(C:Nat)(t:Tk)(r:List Tk):One C (t::r) r:=⟨List.suffix_cons t r,rfl,wt_cons C t r⟩
theorem pName_one{C:Nat}{ts r:List Tk}{nm:List UInt8}(ht:TokOk ts)(h:pName ts=some (nm,r)):isNameE nm=true∧One C ts r:=by
 cases ts with
 | nil=>cases h
 | cons t ts=>
  unfold pName at h
  simp only at h
  split at h
  ·rename_i hk
   cases h
   exact⟨(ht t List.mem_cons_self).1 hk,one_cons C t _⟩
  ·cases h
theorem pTok_one{C:Nat}{s:List UInt8}{ts r:List Tk}(h:pTok s ts=some r):One C ts r:=by
 unfold pTok at h
 split at h
 ·rename_i hs
  cases h
  obtain⟨h1,h2,h3⟩:=is_tail (C:=C) hs
  exact⟨h1,h2,h3⟩
 ·cases h
theorem pNum_one{C:Nat}{ts r:List Tk}{n:Int}(ht:TokOk ts)(h:pNum ts=some (n,r)):(0≤n∧n≤9223372036854775807)∧One C ts r:=by
 cases ts with
 | nil=>cases h
 | cons t ts=>
  unfold pNum at h
  simp only at h
  split at h
  ·rename_i hk
   cases h
   exact⟨(ht t List.mem_cons_self).2 hk,one_cons C t _⟩
  ·cases h
theorem lookup_val:∀ {l:List (List UInt8 × Int)} {s:List UInt8} {v:Int},l.lookup s=some v→∃ a,(a,v)∈l
 | [],_,_,h=>by cases h
 | (a,w)::l,s,v,h=>by
  rw[List.lookup_cons]at h
  split at h
  ·cases h;exact⟨a,List.mem_cons_self⟩
  ·obtain⟨b,hb⟩:=lookup_val h;exact⟨b,List.mem_cons_of_mem _ hb⟩
theorem word_rng(s:List UInt8):wordT s=0∨(2≤wordT s∧wordT s≤15):=by
 unfold wordT
 cases h:wordTab.lookup s with
 | none=>exact .inl rfl
 | some v=>
  obtain⟨a,ha⟩:=lookup_val h
  have:(wordTab.all fun p=>decide (2≤p.2∧p.2≤15))=true:=by decide
  exact .inr (of_decide_eq_true (List.all_eq_true.1 this (a,v) ha))
theorem decl_rng(s:List UInt8):declT s=0∨(1≤declT s∧declT s≤6):=by
 unfold declT
 cases h:declTab.lookup s with
 | none=>exact .inl rfl
 | some v=>
  obtain⟨a,ha⟩:=lookup_val h
  have:(declTab.all fun p=>decide (1≤p.2∧p.2≤6))=true:=by decide
  exact .inr (of_decide_eq_true (List.all_eq_true.1 this (a,v) ha))
def exLen(s:Sp):Nat:=if valuedE s.op then s.ex.txt.length else 0
theorem word_le(op:Int):(wordE op).length≤11:=by
 unfold wordE
 split<;>simp
theorem head_le(s:Sp):(headE s).length≤20+s.nm.length+s.arg.length+(idxE s.idx).length+exLen s:=by
 have hw:=word_le s.op
 unfold headE exLen valuedE
 by_cases h1:s.op=1
 ·simp[h1];omega
 by_cases h2:s.op=2
 ·rw[h2]at hw;simp[h2];omega
 by_cases h3:s.op=3
 ·rw[h3]at hw;simp[h3];omega
 by_cases h14:s.op=14
 ·rw[h14]at hw;simp[h14];omega
 rw[if_neg h1,if_neg (by omega)]
 split
 ·omega
 ·try rw[if_neg h14]
  split
  ·simp;omega
  ·simp;omega
theorem stx_le(d:Nat)(s:Sp):(s.txt d).length≤6*d+40+s.nm.length+s.arg.length+(idxE s.idx).length+exLen s+(if bodyE s.op then(Sp.txts (d+1) s.body).length+(Sp.txts (d+1) s.els).length else 0):=by
 have hh:=head_le s
 rw[stxt_eq]
 have h5:(if s.els.isEmpty=true then [] else indE d++125::32::101::108::115::101::32::123::10::Sp.txts (d+1) s.els).length≤2*d+9+(Sp.txts (d+1) s.els).length:=by
  split
  ·simp
  ·simp[ind_len];omega
 cases bodyE s.op
 ·simp only[List.length_append,ind_len,Bool.false_eq_true,if_false,List.length_cons,List.length_nil]
  omega
 ·simp only[List.length_append,ind_len,if_true,List.length_cons,List.length_nil]
  omega
def SQ(M C:Nat)(ts:List Tk)(s:Sp)(r:List Tk):Prop:=ShS s∧r <:+ ts∧r.length<ts.length∧s.sz+r.length≤ts.length∧∀ d,d+ts.length≤M→(s.txt d).length+wt C r≤wt C ts
def LQ(M C:Nat)(ts:List Tk)(l:List Sp)(r:List Tk):Prop:=(∀ s∈l,ShS s)∧r <:+ ts∧r.length<ts.length∧Sp.szs l+r.length<ts.length∧∀ d,d+ts.length≤M→(Sp.txts d l).length+wt C r≤wt C ts
theorem sq_mk{M C:Nat}(hC:100+8*M≤C){ts r:List Tk}{s:Sp}(hs:ShS s)(h1:r <:+ ts)(h2:r.length<ts.length)(h3:Sp.szs s.body+Sp.szs s.els+1+r.length≤ts.length)
  (h4:∀ d,d+ts.length≤M→C+(idxE s.idx).length+exLen s+((Sp.txts (d+1) s.body).length+(Sp.txts (d+1) s.els).length)+wt C r≤wt C ts):SQ M C ts s r:=by
 refine⟨hs,h1,h2,by rw[ssz_eq];omega,fun d hd=>?_⟩
 have h5:=h4 d hd
 have h6:=stx_le d s
 have h7:s.nm.length≤12∧s.arg.length≤12:=by
  cases hs with
  | mk a1 a2 a3 a4 a5 _ _ _ _ _ _ _ _ _=>
   constructor
   ·cases hn:namelessE s.op
    ·exact nm_le (a3 hn)
    ·rw[a2 hn];exact Nat.zero_le _
   ·by_cases ha:s.op=15
    ·exact nm_le (a4 ha)
    ·rw[a5 ha];exact Nat.zero_le _
 have h8:(if bodyE s.op then(Sp.txts (d+1) s.body).length+(Sp.txts (d+1) s.els).length else 0)≤(Sp.txts (d+1) s.body).length+(Sp.txts (d+1) s.els).length:=by
  split
  ·exact Nat.le_refl _
  ·exact Nat.zero_le _
 omega
theorem pAsg_shape{M C:Nat}(hC:100+8*M≤C){n:Nat}{line:Int}{ts:List Tk}{s:Sp}{r:List Tk}(ht:TokOk ts)(h:pAsg n line ts=some (s,r)):SQ M C ts s r:=by
 unfold pAsg at h
 split at h
 ·cases h
 rename_i nm t1 hn
 obtain⟨n1,n2,n3,n4⟩:=pName_one (C:=C) ht hn
 have ht1:=tok_suf ht n2
 split at h
 ·cases h
 rename_i ix t2 hi
 have hix:ix.length≤1∧(∀ x∈ix,ShE x)∧t2 <:+ t1∧t2.length≤t1.length∧(idxE ix).length+wt C t2≤wt C t1:=by
  unfold pIdx at hi
  split at hi
  ·rename_i hs
   obtain⟨u1,u2,u3⟩:=is_tail (C:=C) hs
   split at hi
   ·cases hi
   ·rename_i x q hx
    obtain⟨a1,a2,a3,a4⟩:=(pe_shape (C:=C) (by omega) n).1 _ _ _ _ (tok_suf ht1 u1) hx
    simp only[Option.map_eq_some_iff]at hi
    obtain⟨q',hq,hi⟩:=hi
    cases hi
    obtain⟨b1,b2,b3⟩:=pTok_one (C:=C) hq
    have:=idxE_len [x]
    simp only at this
    exact⟨by simp,by simpa using a1,(b1.trans a2).trans u1,by omega,by omega⟩
  ·cases hi
   exact⟨by simp,by simp,List.suffix_refl _,Nat.le_refl _,by simp[idxE]⟩
 obtain⟨i1,i2,i3,i4,i5⟩:=hix
 have ht2:=tok_suf ht1 i3
 split at h
 ·cases h
 rename_i t3 h3
 obtain⟨c1,c2,c3⟩:=pTok_one (C:=C) h3
 have ht3:=tok_suf ht2 c1
 split at h
 ·cases h
 rename_i x t4 hx
 obtain⟨a1,a2,a3,a4⟩:=(pe_shape (C:=C) (by omega) n).1 _ _ _ _ ht3 hx
 simp only[Option.map_eq_some_iff]at h
 obtain⟨t5,h5,h⟩:=h
 cases h
 obtain⟨d1,d2,d3⟩:=pTok_one (C:=C) h5
 refine sq_mk hC (.mk ⟨by simp[zSp],by simp[zSp]⟩ (by simp[zSp,namelessE]) (fun _=>n1) (by simp[zSp]) (by simp[zSp]) i1 (by simp[zSp]) i2 (fun _=>a1) (by simp[zSp,valuedE]) (by simp[zSp]) (by simp[zSp]) (by simp[zSp]) (by simp[zSp])) ((((d1.trans a2).trans c1).trans i3).trans n2) (by omega) (by simp[zSp,Sp.szs];omega) fun d hd=>?_
 simp only[zSp,exLen,valuedE,Sp.txts,List.length_nil]
 simp
 omega
theorem ps_shape{M C:Nat}(hC:100+8*M≤C):∀ n,(∀ ts s r,TokOk ts→pst n ts=some (s,r)→SQ M C ts s r)∧(∀ ts l r,TokOk ts→pbl n ts=some (l,r)→LQ (M+1) C ts l r)∧(∀ ts l r,TokOk ts→pls n ts=some (l,r)→LQ M C ts l r)
 | 0=>⟨fun _ _ _ _ h=>by simp[pst]at h,fun _ _ _ _ h=>by simp[pbl]at h,fun _ _ _ _ h=>by simp[pls]at h⟩
 | n+1=>by
  obtain⟨ih1,ih2,ih3⟩:=ps_shape hC n
  refine⟨fun ts s r ht h=>?_,fun ts l r ht h=>?_,fun ts l r ht h=>?_⟩
  ·cases ts with
   | nil=>simp[pst]at h
   | cons t ts=>
    have hw:=wt_cons C t ts
    have hsf:=List.suffix_cons t ts
    have htl:=tok_suf ht hsf
    rw[pst]at h
    split at h
    ·exact pAsg_shape hC ht h
    split at h
    rotate_left
    ·cases h
    have hr:=word_rng t.text
    generalize wordT t.text=w at h hr
    split at h
    ·cases h
    split at h
    ·rename_i hw23
     split at h
     ·cases h
     rename_i x t1 hx
     obtain⟨a1,a2,a3,a4⟩:=(pe_shape (C:=C) (by omega) n).1 _ _ _ _ htl hx
     have ht1:=tok_suf htl a2
     split at h
     ·cases h
     rename_i b t2 hb
     obtain⟨b1,b2,b3,b4,b5⟩:=ih2 _ _ _ ht1 hb
     have ht2:=tok_suf ht1 b2
     split at h
     ·rename_i hw2
      obtain⟨rfl,hs⟩:=hw2
      obtain⟨u1,u2,u3⟩:=is_tail (C:=C) hs
      split at h
      ·cases h
      rename_i e t3 he
      obtain⟨e1,e2,e3,e4,e5⟩:=ih2 _ _ _ (tok_suf ht2 u1) he
      cases h
      refine sq_mk hC (.mk ⟨by simp[zSp],by simp[zSp]⟩ (by simp[zSp]) (by simp[zSp,namelessE]) (by simp[zSp]) (by simp[zSp]) (by simp[zSp]) (by simp[zSp]) (by simp[zSp]) (fun _=>a1) (by simp[zSp,valuedE]) (by simp[zSp,bodyE]) (by simp[zSp]) b1 e1) ((((e2.trans u1).trans b2).trans a2).trans hsf) (by simp only[List.length_cons];omega) (by simp only[List.length_cons];omega) fun d hd=>?_
      rw[List.length_cons]at hd
      have:=b5 (d+1) (by omega)
      have:=e5 (d+1) (by omega)
      simp only[zSp,exLen,valuedE,idxE,List.length_nil]
      simp
      omega
     ·cases h
      refine sq_mk hC (.mk (by simp only[zSp];omega) (by simp[zSp]) (by rcases hw23 with rfl | rfl<;>simp[zSp,namelessE]) (by simp[zSp];omega) (by simp[zSp]) (by simp[zSp]) (by simp[zSp]) (by simp[zSp]) (fun _=>a1) (by rcases hw23 with rfl | rfl<;>simp[zSp,valuedE]) (by rcases hw23 with rfl | rfl<;>simp[zSp,bodyE]) (by simp[zSp]) b1 (by simp[zSp])) ((b2.trans a2).trans hsf) (by simp only[List.length_cons];omega) (by simp only[zSp,List.length_cons,Sp.szs];omega) fun d hd=>?_
      rw[List.length_cons]at hd
      have:=b5 (d+1) (by omega)
      have:valuedE w=true:=by rcases hw23 with rfl | rfl<;>rfl
      simp only[zSp,exLen,this,idxE,List.length_nil,if_true,Sp.txts]
      omega
    ·split at h
     ·rename_i hw78
      split at h
      ·cases h
      rename_i b t2 hb
      obtain⟨b1,b2,b3,b4,b5⟩:=ih2 _ _ _ htl hb
      cases h
      refine sq_mk hC (.mk (by simp only[zSp];omega) (by simp[zSp]) (by rcases hw78 with rfl | rfl<;>simp[zSp,namelessE]) (by simp[zSp];omega) (by simp[zSp]) (by simp[zSp]) (by simp[zSp]) (by simp[zSp]) (by rcases hw78 with rfl | rfl<;>simp[zSp,valuedE]) (fun _=>⟨rfl,rfl,rfl,rfl⟩) (by rcases hw78 with rfl | rfl<;>simp[zSp,bodyE]) (by simp[zSp]) b1 (by simp[zSp])) (b2.trans hsf) (by simp only[List.length_cons];omega) (by simp only[zSp,List.length_cons,Sp.szs];omega) fun d hd=>?_
      rw[List.length_cons]at hd
      have:=b5 (d+1) (by omega)
      have:valuedE w=false:=by rcases hw78 with rfl | rfl<;>rfl
      simp only[zSp,exLen,this,idxE,List.length_nil,Bool.false_eq_true,if_false,Sp.txts]
      omega
     ·split at h
      ·cases h
      rename_i nm t1 hn
      obtain⟨n1,n2,n3,n4⟩:=pName_one (C:=C) htl hn
      have ht1:=tok_suf htl n2
      split at h
      ·rename_i hw456
       split at h
       ·cases h
       rename_i b t2 hb
       obtain⟨b1,b2,b3,b4,b5⟩:=ih2 _ _ _ ht1 hb
       cases h
       refine sq_mk hC (.mk (by simp only[zSp];omega) (by rcases hw456 with rfl | rfl | rfl<;>simp[zSp,namelessE]) (fun _=>n1) (by simp[zSp];omega) (by simp[zSp]) (by simp[zSp]) (by simp[zSp]) (by simp[zSp]) (by rcases hw456 with rfl | rfl | rfl<;>simp[zSp,valuedE]) (fun _=>⟨rfl,rfl,rfl,rfl⟩) (by rcases hw456 with rfl | rfl | rfl<;>simp[zSp,bodyE]) (by simp[zSp]) b1 (by simp[zSp])) ((b2.trans n2).trans hsf) (by simp only[List.length_cons];omega) (by simp only[zSp,List.length_cons,Sp.szs];omega) fun d hd=>?_
       rw[List.length_cons]at hd
       have:=b5 (d+1) (by omega)
       have:valuedE w=false:=by rcases hw456 with rfl | rfl | rfl<;>rfl
       simp only[zSp,exLen,this,idxE,List.length_nil,Bool.false_eq_true,if_false,Sp.txts]
       omega
      ·split at h
       ·rename_i hw14
        subst hw14
        split at h
        ·cases h
        rename_i x t2 hx
        obtain⟨a1,a2,a3,a4⟩:=(pe_shape (C:=C) (by omega) n).1 _ _ _ _ ht1 hx
        simp only[Option.map_eq_some_iff]at h
        obtain⟨t3,h3,h⟩:=h
        cases h
        obtain⟨d1,d2,d3⟩:=pTok_one (C:=C) h3
        refine sq_mk hC (.mk ⟨by simp[zSp],by simp[zSp]⟩ (by simp[zSp,namelessE]) (fun _=>n1) (by simp[zSp]) (by simp[zSp]) (by simp[zSp]) (by simp[zSp]) (by simp[zSp]) (fun _=>a1) (by simp[zSp,valuedE]) (by simp[zSp]) (by simp[zSp]) (by simp[zSp]) (by simp[zSp])) (((d1.trans a2).trans n2).trans hsf) (by simp only[List.length_cons];omega) (by simp only[zSp,List.length_cons,Sp.szs];omega) fun d hd=>?_
        simp only[zSp,exLen,valuedE,idxE,List.length_nil,Sp.txts]
        simp
        omega
       ·split at h
        ·rename_i hw15
         subst hw15
         split at h
         ·cases h
         rename_i ar t2 ha
         obtain⟨a1,a2,a3,a4⟩:=pName_one (C:=C) ht1 ha
         simp only[Option.map_eq_some_iff]at h
         obtain⟨t3,h3,h⟩:=h
         cases h
         obtain⟨d1,d2,d3⟩:=pTok_one (C:=C) h3
         refine sq_mk hC (.mk ⟨by simp[zSp],by simp[zSp]⟩ (by simp[zSp,namelessE]) (fun _=>n1) (fun _=>a1) (by simp[zSp]) (by simp[zSp]) (by simp[zSp]) (by simp[zSp]) (by simp[zSp,valuedE]) (fun _=>⟨rfl,rfl,rfl,rfl⟩) (by simp[zSp]) (by simp[zSp]) (by simp[zSp]) (by simp[zSp])) (((d1.trans a2).trans n2).trans hsf) (by simp only[List.length_cons];omega) (by simp only[zSp,List.length_cons,Sp.szs];omega) fun d hd=>?_
         simp only[zSp,exLen,valuedE,idxE,List.length_nil,Sp.txts]
         simp
         omega
        ·simp only[Option.map_eq_some_iff]at h
         obtain⟨t3,h3,h⟩:=h
         cases h
         obtain⟨d1,d2,d3⟩:=pTok_one (C:=C) h3
         have hw5:w=9∨w=10∨w=11∨w=12∨w=13:=by omega
         refine sq_mk hC (.mk (by simp only[zSp];omega) (by rcases hw5 with rfl | rfl | rfl | rfl | rfl<;>simp[zSp,namelessE]) (fun _=>n1) (by simp[zSp];omega) (by simp[zSp]) (by simp[zSp]) (by simp[zSp]) (by simp[zSp]) (by rcases hw5 with rfl | rfl | rfl | rfl | rfl<;>simp[zSp,valuedE]) (fun _=>⟨rfl,rfl,rfl,rfl⟩) (by simp[zSp]) (by simp[zSp]) (by simp[zSp]) (by simp[zSp])) ((d1.trans n2).trans hsf) (by simp only[List.length_cons];omega) (by simp only[zSp,List.length_cons,Sp.szs];omega) fun d hd=>?_
         have:valuedE w=false:=by rcases hw5 with rfl | rfl | rfl | rfl | rfl<;>rfl
         simp only[zSp,exLen,this,idxE,List.length_nil,Bool.false_eq_true,if_false,Sp.txts]
         omega
  ·rw[pbl]at h
   split at h
   ·rename_i hs
    obtain⟨u1,u2,u3⟩:=is_tail (C:=C) hs
    obtain⟨b1,b2,b3,b4,b5⟩:=ih3 _ _ _ (tok_suf ht u1) h
    exact⟨b1,b2.trans u1,by omega,by omega,fun d hd=>by have:=b5 d (by omega);omega⟩
   ·cases h
  ·rw[pls]at h
   split at h
   ·rename_i hs
    obtain⟨u1,u2,u3⟩:=is_tail (C:=C) hs
    cases h
    exact⟨by simp,u1,by omega,by simp only[Sp.szs];omega,fun d hd=>by simp only[Sp.txts,List.length_nil];omega⟩
   ·split at h
    ·cases h
    rename_i s t1 hs
    obtain⟨a1,a2,a3,a4,a5⟩:=ih1 _ _ _ ht hs
    split at h
    ·cases h
    rename_i l' t2 hl
    obtain⟨b1,b2,b3,b4,b5⟩:=ih3 _ _ _ (tok_suf ht a2) hl
    cases h
    refine⟨fun x hx=>?_,b2.trans a2,by omega,by rw[Sp.szs];omega,fun d hd=>?_⟩
    ·rcases List.mem_cons.1 hx with rfl | hx
     ·exact a1
     ·exact b1 x hx
    ·have:=a5 d hd
     have:=b5 d (by omega)
     rw[stxts_cons,List.length_append]
     omega
end Go.Proofs.YtlehfgdhebapeaaGreatDoor.KM
