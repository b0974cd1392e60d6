/- Plain: scanning the texts of expressions. -/
import Derived.Test.YtphikjgngompaabGreatDoorYu
set_option linter.all false
namespace Go.Proofs.YtphikjgngompaabGreatDoor.KM
open Go
theorem Aat(p:UInt8->Bool):∀ l:List UInt8,(l.dropWhile p).length<=l.length
 | []=>Aj _
 | c::r=>by
  rw[Wt]
  split
  .exact Nat.le_succ_of_le (Aat p r)
  omega
theorem Awr{c:UInt8}{r:List UInt8}(h:I6 (c::r)≠0):1<=I6 (c::r)/\I6 (c::r)<=(c::r).length:=by
 unfold I6 at h ⊢
 grind
def Zt{c:UInt8}{r:List UInt8}{k:Int}{w:List UInt8}(h:K0 (c::r)=some (k,w)):1<=w.length/\∃ q,c::r=w++q:=by
 unfold K0 at h;simp only at h
 split at h
 .split at h
  .cases h
  .cases h;exact⟨by simp[Ex],r.dropWhile H7,by simp[Ex]⟩
 .split at h
  .split at h
   .cases h
   .split at h
    .cases h;exact⟨by simp[Eo],r.dropWhile Du,by simp[Eo]⟩
    grind
  .split at h
   .cases h
   grind[Awr,List.take_append_drop]
def Xl:∀ (n m:Nat) (ln:Int) (l:List UInt8),l.length<=n->l.length<=m->C0 n ln l=C0 m ln l
 | n,m,ln,[],_,_=>by cases n<;>cases m<;>rfl
 | 0,_,_,_::_,h,_=>by simp at h
 | _+1,0,_,_::_,_,h=>by simp at h
 | n+1,m+1,ln,c::r,h1,h2=>by
  rw[An]at h1 h2;unfold C0;by_cases e1:c=10
  .rw[if_pos e1,if_pos e1];exact Xl n m _ r AA AA
  rw[if_neg e1,if_neg e1];by_cases e2:c=32\/c=9\/c=13
  .rw[if_pos e2,if_pos e2];exact Xl n m _ r AA AA
  rw[if_neg e2,if_neg e2];by_cases e3:c=47/\r.head?=some 47
  .rw[if_pos e3,if_pos e3]
   have hd:((c::r).dropWhile (· != 10)).length<=r.length:=by
    rw[Wt,if_pos (by simp[e1])];exact Aat _ r
   exact Xl n m _ _ AA AA
  rw[if_neg e3,if_neg e3]
  cases hf:K0 (c::r) with
  | none=>rfl
  | some p=>
   obtain⟨k,w⟩:=p;have hw:=(Zt hf).1;simp only;rw[Xl n m ln _ (by grind) (by grind)]
def Ut(o:Option (List Tk)):Option (List Kt):=o.map fun l=>l.map Tk.kt
def Zy:∀ (n:Nat) (ln qw:Int) (l:List UInt8),Ut (C0 n ln l)=Ut (C0 n qw l)
 | n,ln,qw,[]=>by cases n<;>rfl
 | 0,_,_,_::_=>rfl
 | n+1,ln,qw,c::r=>by
  unfold C0;by_cases e1:c=10
  .rw[if_pos e1,if_pos e1];exact Zy n _ _ r
  rw[if_neg e1,if_neg e1];by_cases e2:c=32\/c=9\/c=13
  .rw[if_pos e2,if_pos e2];exact Zy n _ _ r
  rw[if_neg e2,if_neg e2];by_cases e3:c=47/\r.head?=some 47
  .rw[if_pos e3,if_pos e3];exact Zy n _ _ _
  rw[if_neg e3,if_neg e3]
  cases hf:K0 (c::r) with
  | none=>rfl
  | some p=>
   obtain⟨k,w⟩:=p;simp only;have:=Zy n ln qw ((c::r).drop w.length);unfold Ut at this ⊢;simp only[Option.map_map]at this ⊢;revert this
   cases C0 n ln ((c::r).drop w.length)<;>cases C0 n qw ((c::r).drop w.length)<;>intro this
   .rfl
   .cases this
   .cases this
   .simp only[Ir,Adc]at this ⊢;simp only[Function.comp_apply,Aw,this];rfl
def B7(l:List UInt8):Option (List Kt):=Ut (C0 l.length 1 l)
def Atv{n:Nat}{ln:Int}{l:List UInt8}(h:l.length<=n):Ut (C0 n ln l)=B7 l:=by
 unfold B7;rw[Xl n l.length ln l h (Aj _)];exact Zy _ _ _ _
def Bkk:B7 []=some []:=rfl
def Tw(r:List UInt8):B7 (10::r)=B7 r:=by
 unfold B7;rw[An,C0,if_pos rfl];exact Atv (Aj _)
def E4(r:List UInt8):B7 (32::r)=B7 r:=by
 unfold B7;rw[An,C0,if_neg AG,if_pos (.inl rfl)]
def Bkl(n:Nat)(r:List UInt8):B7 (List.replicate n 32++r)=B7 r:=by
 induction n with
 | zero=>rfl
 | succ n ih=>rw[Ac4,Bq,E4,ih]
def cons(ks:List Kt)(o:Option (List Kt)):Option (List Kt):=o.map fun l=>ks++l
def Fu(a b:List Kt)(o:Option (List Kt)):cons a (cons b o)=cons (a++b) o:=by cases o<;>simp[cons]
def Aaa(o:Option (List Kt)):cons [] o=o:=by cases o<;>rfl
def X6{c:UInt8}{r w q:List UInt8}{k:Int}(he:c::r=w++q)(hf:K0 (c::r)=some (k,w))(h1:c≠10/\c≠32/\c≠9/\c≠13)(h2:¬ (c=47/\r.head?=some 47)):B7 (c::r)=cons [(k,w)] (B7 q):=by
 have h3:¬ (c=32\/c=9\/c=13):=fun h=>by
  rcases h with h | h | h
  .exact h1.2.1 h
  .exact h1.2.2.1 h
  .exact h1.2.2.2 h
 have e:Ut (C0 (c::r).length 1 (c::r))=cons [(k,w)] (Ut (C0 r.length 1 q)):=by
  rw[An,C0,if_neg h1.1,if_neg h3,if_neg h2,hf];simp only;rw[he,List.drop_left]
  cases C0 r.length 1 q<;>rfl
 unfold B7 at e ⊢;rw[e];congr 1;refine Atv ?_;have hw:=(Zt hf).1;have:=congrArg List.length he;rw[Aq,An]at this;omega
def Pz(c:UInt8)(r:List UInt8):K0 (c::r)=if Gw c then(if 12<(Ex c r).length then none else some (if Gk (Ex c r) then 3 else 1,Ex c r))
  else if Du c then(if Rz (r.dropWhile Du) then none else if Qq (Eo c r) then some (2,Eo c r) else none)
  else if I6 (c::r)=0 then none else some (4,(c::r).take (I6 (c::r))):=rfl
def Lu(r:List UInt8):Prop:=∀ c∈r.head?,H7 c=false
def Ma{c:UInt8}(r:List UInt8)(h:H7 c=false):Lu (c::r):=fun d hd=>by cases hd;exact h
def Ai8{p:UInt8->Bool}:∀ (cs r:List UInt8),(∀ c∈cs,p c=true)->(∀ c∈r.head?,p c=false)->(cs++r).takeWhile p=cs/\(cs++r).dropWhile p=r
 | [],[],_,_=>⟨rfl,rfl⟩
 | [],c::r,_,h=>by
  have:=h c rfl;simp[Wu,Wt,this]
 | c::cs,r,h1,h2=>by
  have:=Ai8 cs r (fun d hd=>h1 d (Cb _ hd)) h2;simp[Wu,Wt,h1 c B4,this]
def A50:((List.range 256).all fun n=>!K6 n||(decide (n≠10)&&(decide (n≠32)&&(decide (n≠9)&&(decide (n≠13)&&(decide (n≠47)&&(decide (n≠61)&&Lw n)))))))=true:=by decide +kernel
def A51:((List.range 256).all fun n=>!Ms n||(decide (n≠10)&&(decide (n≠32)&&(decide (n≠9)&&(decide (n≠13)&&(decide (n≠47)&&(decide (n≠61)&&(!K6 n&&Lw n))))))))=true:=by decide +kernel
def N8{c:UInt8}{n:Nat}(hn:n<256)(h:c.toNat≠n):c≠UInt8.ofNat n:=by
 intro e
 simp_all
theorem Alo{c:UInt8}(h:Gw c=true):(c≠10/\c≠32/\c≠9/\c≠13)/\c≠47/\c≠61/\H7 c=true:=by
 have:=Bu.1 A50 c.toNat (Eg.2 c.toNat_lt);unfold Gw at h;rw[h]at this;simp only[Ay,Zl,Ai,decide_eq_true_eq]at this;obtain⟨a1,a2,a3,a4,a5,a6,a7⟩:=this;exact⟨⟨N8 (n:=10) AG a1,N8 (n:=32) AG a2,N8 (n:=9) AG a3,N8 (n:=13) AG a4⟩,N8 (n:=47) AG a5,N8 (n:=61) AG a6,a7⟩
def Aws{c:UInt8}(h:Du c=true):(c≠10/\c≠32/\c≠9/\c≠13)/\c≠47/\c≠61/\Gw c=false/\H7 c=true:=by
 have:=Bu.1 A51 c.toNat (Eg.2 c.toNat_lt);unfold Du at h;rw[h]at this;simp only[Ay,Zl,Ai,decide_eq_true_eq,Q7]at this;obtain⟨a1,a2,a3,a4,a5,a6,a7,a8⟩:=this;exact⟨⟨N8 (n:=10) AG a1,N8 (n:=32) AG a2,N8 (n:=9) AG a3,N8 (n:=13) AG a4⟩,N8 (n:=47) AG a5,N8 (n:=61) AG a6,a7,a8⟩
def Awt{c:UInt8}{cs r:List UInt8}(h1:Gw c=true)(h2:∀ d∈cs,H7 d=true)(h3:(c::cs).length<=12)(hr:Lu r):B7 ((c::cs)++r)=cons [(if Gk (c::cs) then 3 else 1,c::cs)] (B7 r):=by
 obtain⟨a1,a2,-⟩:=Alo h1;have ht:=(Ai8 (p:=H7) cs r h2 hr).1;refine X6 (q:=r) rfl ?_ a1 fun h=>a2 h.1
 show K0 (c::(cs++r))=_;have hn:¬ 12<(c::cs).length:=by omega
 rw[Pz,h1,if_pos rfl];simp only[Ex,ht];rw[if_neg hn]
def Akn{l:List UInt8}(h:Bm l=true):∃ c cs,l=c::cs/\Gw c=true/\(∀ d∈cs,H7 d=true)/\(c::cs).length<=12/\Gk l=false:=by
 unfold Bm at h;simp only[Ai,decide_eq_true_eq,Q7,Bu,Eg]at h;obtain⟨h1,h2,h3,h4⟩:=h
 cases l with
 | nil=>grind
 | cons c cs=>
  refine⟨c,cs,rfl,?_,fun d hd=>?_,h2,h3⟩
  .grind[Jd,Gw]
  .obtain⟨i,hi,rfl⟩:=List.mem_iff_getElem.1 hd;have:=h4 (i+1) (by grind);unfold Jd at this;simp only[List.getD_cons_succ]at this;rw[Ef,B9 hi]at this;simp only[Q8]at this;unfold H7 Lw
   grind
def Ie{nm r:List UInt8}(h:Bm nm=true)(hr:Lu r):B7 (nm++r)=cons [(1,nm)] (B7 r):=by
 obtain⟨c,cs,rfl,h1,h2,h3,h4⟩:=Akn h;rw[Awt h1 h2 h3 hr,h4];rfl
def Qt:Prop:=∀ n:Int,0<=n/\n<=9223372036854775807->(∃ c cs,B3 n=c::cs/\Du c=true/\∀ d∈cs,Du d=true)/\Qq (B3 n)=true
def A29{r:List UInt8}(h:Lu r):Rz r=false:=by
 cases r with
 | nil=>rfl
 | cons c r=>
  have:=h c rfl;unfold H7 Lw at this;simp only[Aid]at this;unfold Rz Gw;simp only[Aid,beq_eq_false_iff_ne,ne_eq];refine⟨this.1,fun e=>?_⟩;subst e;have:=this.2.2;simp at this
def Af6(hd:Qt){n:Int}(hn:0<=n/\n<=9223372036854775807){r:List UInt8}(hr:Lu r):B7 (B3 n++r)=cons [(2,B3 n)] (B7 r):=by
 obtain⟨⟨c,cs,e,h1,h2⟩,h3⟩:=hd n hn;rw[e]at h3 ⊢;obtain⟨a1,a2,-,a4,-⟩:=Aws h1
 have ht:=Ai8 (p:=Du) cs r h2 fun c hc=>by
  have:=hr c hc;unfold H7 Lw at this;simp only[Aid]at this;exact this.2.1
 refine X6 (q:=r) rfl ?_ a1 fun h=>a2 h.1
 show K0 (c::(cs++r))=_;rw[Pz,a4,if_neg AE,h1,if_pos rfl,ht.2,A29 hr,if_neg AE];simp only[Eo,ht.1];rw[h3,if_pos rfl]
def Yn:List UInt8:=[43,45,42,37,40,41,91,93,123,125,44,59]
def G6{c:UInt8}(h:c∈Yn)(r:List UInt8):B7 (c::r)=cons [(4,[c])] (B7 r):=by
 refine X6 (q:=r) rfl ?_ ?_ ?_
 .have hs:I6 (c::r)=1:=by
   unfold I6
   have h0:(twoS.elem ((c::r).take 2))=false:=by
    cases r with
    | nil=>
     simp only[Yn,Bp,L8,or_false]at h
     rcases h with rfl | rfl | rfl | rfl | rfl | rfl | rfl | rfl | rfl | rfl | rfl | rfl<;>rfl
    | cons d r=>
     simp only[List.take_succ_cons,Adg,twoS];simp only[Yn,Bp,L8,or_false]at h
     rcases h with rfl | rfl | rfl | rfl | rfl | rfl | rfl | rfl | rfl | rfl | rfl | rfl<;>simp
   rw[h0,Zj];simp only[Yn,Bp,L8,or_false]at h
   rcases h with rfl | rfl | rfl | rfl | rfl | rfl | rfl | rfl | rfl | rfl | rfl | rfl<;>rfl
  have hl:Gw c=false/\Du c=false:=by
   simp only[Yn,Bp,L8,or_false]at h
   rcases h with rfl | rfl | rfl | rfl | rfl | rfl | rfl | rfl | rfl | rfl | rfl | rfl<;>exact⟨rfl,rfl⟩
  rw[Pz,hl.1,hl.2,hs];rfl
 .simp only[Yn,Bp,L8,or_false]at h
  rcases h with rfl | rfl | rfl | rfl | rfl | rfl | rfl | rfl | rfl | rfl | rfl | rfl<;>decide
 .rintro⟨rfl,-⟩;revert h;decide
def Bqe{op:Int}(h:6<=op/\op<=18)(r:List UInt8):B7 (Bz op++32::r)=cons [(4,Bz op)] (B7 (32::r)):=by
 have hw:op=6\/op=7\/op=8\/op=9\/op=10\/op=11\/op=12\/op=13\/op=14\/op=15\/op=16\/op=17\/op=18:=by omega
 rcases hw with rfl | rfl | rfl | rfl | rfl | rfl | rfl | rfl | rfl | rfl | rfl | rfl | rfl<;>exact X6 (q:=32::r) rfl rfl AG AE
def Ad9(r:List UInt8):B7 (61::32::r)=cons [(4,[61])] (B7 (32::r)):=X6 (q:=32::r) rfl rfl AG AE
def Bkm{c:UInt8}{r:List UInt8}(h:c≠61):B7 (33::c::r)=cons [(4,[33])] (B7 (c::r)):=by
 refine X6 (q:=c::r) rfl ?_ AG AE
 have hs:I6 (33::c::r)=1:=by
  unfold I6
  have h0:(twoS.elem ((33::c::r).take 2))=false:=by
   simp only[List.take_succ_cons,Adg,twoS];simp[h]
  rw[h0,Zj];rfl
 rw[Pz,hs];rfl
def Tg(l:List UInt8):Prop:=∃ c cs,l=c::cs/\c≠61
def Ako{l:List UInt8}(h:Tg l)(r:List UInt8):Tg (l++r):=by
 obtain⟨c,cs,rfl,hc⟩:=h;exact⟨c,cs++r,rfl,hc⟩
def Bqf{op:Int}(h:op=4\/op=5){l:List UInt8}(hl:Tg l):B7 (Bz op++l)=cons [(4,Bz op)] (B7 l):=by
 obtain⟨c,cs,rfl,hc⟩:=hl;rcases h with rfl | rfl
 .exact G6 AG _
 .exact Bkm hc
def Tx(l:List UInt8)(ks:List Kt):Prop:=∀ r,Lu r->B7 (l++r)=cons ks (B7 r)
def Atw{o:Int × List UInt8}{lvl:Int}(h:Tg o.2):Tg (Dg o lvl):=by
 unfold Dg
 split
 .exact⟨40,_,rfl,by decide⟩
 .exact h
def Amo{op:Int}{l:List UInt8}{ks:List Kt}(h:Tx l ks)(lvl:Int):Tx (Dg (op,l) lvl) (Jb (op,ks) lvl):=by
 intro r hr;unfold Dg Jb;simp only
 split
 .simp only[Bq,Bt,Ba];rw[G6 AG,h _ (Ma _ AG),G6 AG];simp only[Fu,Bq,Ba]
 .exact h r hr
def Bkn{op:Int}(ho:6<=op/\op<=18){l1 l2:List UInt8}{k1 k2:List Kt}(h1:Tx l1 k1)(h2:Tx l2 k2):Tx (l1++32::(Bz op++32::l2)) (k1++(4,Bz op)::k2):=by
 intro r hr;simp only[Bt,Bq];rw[h1 _ (Ma _ AG),E4,Bqe ho,E4,h2 r hr];simp only[Fu,Bq,Ba]
def Bqg{op:Int}(ho:op=4\/op=5){l:List UInt8}{k:List Kt}(h:Tx l k)(hl:Tg l):Tx (Bz op++l) ((4,Bz op)::k):=by
 intro r hr;rw[Bt,Bqf ho (Ako hl r),h r hr];simp only[Fu,Bq,Ba]
def Bko{nm l:List UInt8}{k:List Kt}(hn:Bm nm=true)(h:Tx l k):Tx (nm++91::(l++[93])) ((1,nm)::(4,[91])::(k++[(4,[93])])):=by
 intro r hr;simp only[Bt,Bq,Ba];rw[Ie hn (Ma _ AG),G6 AG,h _ (Ma _ AG),G6 AG];simp only[Fu,Bq,Ba]
def Awu{op:Int}{z:Bool}{t:Nat}{a b:Xp}(h:6<=op/\op<=18):Xp.txt ⟨op,0,[],z,t,[a,b]⟩=Dg (a.op,a.txt) (Gi op)++32::(Bz op++32::Dg (b.op,b.txt) (Be op+1)):=by
 simp only[Xp.txt,Xp.txts,Dr]
 grind
def Ayt{op:Int}{z:Bool}{t:Nat}{a:Xp}(h:op=4\/op=5):Xp.txt ⟨op,0,[],z,t,[a]⟩=Bz op++Dg (a.op,a.txt) 6/\Xp.toks ⟨op,0,[],z,t,[a]⟩=(4,Bz op)::Jb (a.op,a.toks) 6:=by
 simp only[Xp.txt,Xp.txts,Dr,Xp.toks,Xp.tokss,Qs]
 grind
def Awv{nm:List UInt8}(h:Bm nm=true):Tg nm:=by
 obtain⟨c,cs,rfl,h1,-⟩:=Akn h;exact⟨c,cs,rfl,(Alo h1).2.2.1⟩
def Af7(hd:Qt){x:Xp}(h:ShE x):Tx x.txt x.toks/\Tg x.txt:=by
 induction h with
 | @num n z t hn=>
  have e1:Xp.txt ⟨1,n,[],z,t,[]⟩=B3 n:=by simp[Xp.txt,Dr]
  have e2:Xp.toks ⟨1,n,[],z,t,[]⟩=[(2,B3 n)]:=by simp[Xp.toks,Qs]
  rw[e1,e2];obtain⟨⟨c,cs,e,h1,h2⟩,-⟩:=hd n hn;exact⟨fun r hr=>Af6 hd hn hr,c,cs,e,(Aws h1).2.2.1⟩
 | @name nm z t hn=>
  have e1:Xp.txt ⟨2,0,nm,z,t,[]⟩=nm:=by simp[Xp.txt,Dr]
  have e2:Xp.toks ⟨2,0,nm,z,t,[]⟩=[(1,nm)]:=by simp[Xp.toks,Qs]
  rw[e1,e2];exact⟨fun r hr=>Ie hn hr,Awv hn⟩
 | @idx nm z t a hn ha ih=>
  have e1:Xp.txt ⟨3,0,nm,z,t,[a]⟩=nm++91::(a.txt++[93]):=by simp[Xp.txt,Xp.txts,Dr]
  have e2:Xp.toks ⟨3,0,nm,z,t,[a]⟩=(1,nm)::(4,[91])::(a.toks++[(4,[93])]):=by simp[Xp.toks,Xp.tokss,Qs]
  rw[e1,e2];exact⟨Bko hn ih.1,Ako (Awv hn) _⟩
 | @un op z t a qc ha ih=>
  obtain⟨e1,e2⟩:=Ayt (z:=z) (t:=t) (a:=a) qc;rw[e1,e2];have hh:=Atw (o:=(a.op,a.txt)) (lvl:=6) ih.2;refine⟨Bqg qc (Amo ih.1 6) hh,?_⟩;rcases qc with rfl | rfl
  .exact⟨45,_,rfl,by decide⟩
  .exact⟨33,_,rfl,by decide⟩
 | @bin op z t a b qc ha hb iha ihb=>
  rw[Awu qc,Akm qc];exact⟨Bkn qc (Amo iha.1 _) (Amo ihb.1 _),Ako (Atw iha.2) _⟩
def R4{w r:List UInt8}{c:UInt8}{cs:List UInt8}(e:w=c::cs)(h1:Gw c=true)(h2:cs.all H7=true)(h3:w.length<=12)(hk:Gk w=true)(hr:Lu r):B7 (w++r)=cons [(3,w)] (B7 r):=by
 subst e;rw[Awt h1 (Bu.1 h2) h3 hr,hk];rfl
def Bd9:((List.range 14).all fun i=>match Co ((i:Int)+2) with
  | c::cs=>Gw c&&(cs.all H7&&(decide ((c::cs).length<=12)&&Gk (c::cs)))
  | []=>false)=true:=by decide
def Aab{op:Int}(h:2<=op/\op<=15){r:List UInt8}(hr:Lu r):B7 (Co op++r)=cons [(3,Co op)] (B7 r):=by
 obtain⟨i,hi,rfl⟩:∃ i:Nat,i<14/\op=(i:Int)+2:=⟨(op - 2).toNat,by omega,by omega⟩;have:=Bu.1 Bd9 i (Eg.2 hi)
 split at this
 .rename_i c cs he;simp only[Ai,decide_eq_true_eq]at this;rw[he];exact R4 rfl this.1 this.2.1 this.2.2.1 this.2.2.2 hr
 .cases this
def Iu(r:List UInt8):Lu (32::r):=Ma r AG
def Bea(hd:Qt){s:Sp}(h:ShS s):Tx (Cp s) (Ym s):=by
 obtain⟨op,line,nm,arg,iz,it,idx,ex,bz,bt,body,ez,et,els⟩:=s
 cases h with
 | mk h1 h2 h3 h4 h5 h6 h7 h8 h9 h10 h11 h12 h13 h14=>
  simp only at h1 h2 h3 h4 h5 h6 h7 h8 h9 h10 h11 h12 h13 h14;intro r hr;simp only[Cp,Ym];by_cases a:op=1
  .subst a;rw[if_pos rfl,if_pos rfl];have qt:=h3 rfl;have qr:=(Af7 hd (h9 rfl)).1
   match hi:idx,h6 with
   | [],_=>
    simp only[E6,Y1,Ba,Bt,Bq];rw[Ie qt (Iu _),E4,Ad9,E4,qr r hr];simp only[Fu,Bq,Ba]
   | [x],_=>
    have hx:=(Af7 hd (h8 x AE)).1;simp only[E6,Y1,Ba,Bt,Bq];rw[Ie qt (Ma _ AG),G6 AG,hx _ (Ma _ AG),G6 AG,E4,Ad9,E4,qr r hr];simp only[Fu,Bq,Ba]
   | _::_::_,h=>simp at h
  have qc:2<=op/\op<=15:=by omega
  rw[if_neg a,if_neg a];by_cases b:op=2\/op=3
  .rw[if_pos b,if_pos b];have qr:=(Af7 hd (h9 (by rcases b with rfl | rfl<;>rfl))).1;simp only[Bt,Bq];rw[Aab qc (Iu _),E4,qr r hr];simp only[Fu,Bq,Ba]
  rw[if_neg b,if_neg b];by_cases c:op=7\/op=8
  .rw[if_pos c,if_pos c];exact Aab qc hr
  rw[if_neg c,if_neg c];have qt:=h3 (by unfold F8;simp;omega);by_cases d:op=14
  .rw[if_pos d,if_pos d];have qr:=(Af7 hd (h9 (by subst d;rfl))).1;simp only[Bt,Bq];rw[Aab qc (Iu _),E4,Ie qt (Iu _),E4,qr r hr];simp only[Fu,Bq,Ba]
  rw[if_neg d,if_neg d];by_cases e:op=15
  .rw[if_pos e,if_pos e];simp only[Bt,Bq];rw[Aab qc (Iu _),E4,Ie qt (Iu _),E4,Ie (h4 e) hr];simp only[Fu,Bq,Ba]
  rw[if_neg e,if_neg e];simp only[Bt,Bq];rw[Aab qc (Iu _),E4,Ie qt hr];simp only[Fu,Bq,Ba]
def Af8{d:Nat}:∀ {l:List Sp},(∀ s∈l,∀ r,B7 (Sp.txt d s++r)=cons s.toks (B7 r))->∀ r,B7 (Sp.txts d l++r)=cons (Sp.tokss l) (B7 r)
 | [],_,r=>(Aaa _).symm
 | s::l,h,r=>by
  simp only[Sp.txts,Sp.tokss,Bt];rw[h s B4,Af8 (fun s hs=>h s (Cb _ hs)) r,Fu]
def Aau(d:Nat)(r:List UInt8):B7 (Ee d++r)=B7 r:=Bkl _ r
def Beb{r:List UInt8}(hr:Lu r):B7 (101::108::115::101::r)=cons [(3,Tv)] (B7 r):=R4 (w:=Tv) rfl AG AG AG AG hr
def Bec(hd:Qt){s:Sp}(h:ShS s):∀ (d:Nat) (r:List UInt8),B7 (s.txt d++r)=cons s.toks (B7 r):=by
 induction h with
 | @mk s h1 h2 h3 h4 h5 h6 h7 h8 h9 h10 h11 h12 h13 h14 ih1 ih2=>
  intro d r;have hh:=Bea hd (ShS.mk h1 h2 h3 h4 h5 h6 h7 h8 h9 h10 h11 h12 h13 h14);obtain⟨op,line,nm,arg,iz,it,idx,ex,bz,bt,body,ez,et,els⟩:=s;simp only at h1 h2 h3 h4 h5 h6 h7 h8 h9 h10 h11 h12 h13 h14 ih1 ih2;simp only[Sp.txt,Sp.toks];generalize Cp ⟨op,line,nm,arg,iz,it,idx,ex,bz,bt,body,ez,et,els⟩=H at hh ⊢;generalize Ym ⟨op,line,nm,arg,iz,it,idx,ex,bz,bt,body,ez,et,els⟩=K at hh ⊢;have i1:=Af8 (d:=d+1) (l:=body) fun s hs r=>ih1 s hs (d+1) r
  have i2:=Af8 (d:=d+1) (l:=els) fun s hs r=>ih2 s hs (d+1) r
  cases hb:Bv op
  .simp only[Hg,if_false,Bt,Bq,Ba];rw[Aau,hh _ (Ma _ AG),G6 AG,Tw];simp only[Fu,Bq,Ba]
  .simp only[if_true,Bt,Bq,Ba];rw[Aau,hh _ (Iu _),E4,G6 AG,Tw,i1];cases he:els.isEmpty
   .simp only[Hg,if_false,Bt,Bq,Ba];rw[Aau,G6 AG,E4,Beb (Iu _),E4,G6 AG,Tw,i2,Aau,G6 AG,Tw];simp only[Fu,Bq,Ba,Bt]
   .simp only[if_true,Bt,Bq,Ba];rw[Aau,G6 AG,Tw];simp only[Fu,Bq,Ba,Bt]
/-! declarations -/
def Ty(k:Int):List UInt8:=if k=1 then [118,97,114] else if k=2 then [118,111,108,97,116,105,108,101] else if k=3 then [109,117,116,101,120] else if k=4 then [114,119,108,111,99,107] else if k=5 then [99,111,110,100] else [102,117,116,117,114,101]
def Pk(n:Int):List Kt:=if n=0 then [] else if n<0 then [(4,[61]),(4,[45]),(2,B3 (-n))] else [(4,[61]),(2,B3 n)]
def Pl(n:Int):List Kt:=if n=0 then [] else [(4,[91]),(2,B3 n),(4,[93])]
def Ml(d:Dp):List Kt:=(3,Ty d.kind)::(1,d.nm)::(Pl d.size++(Pk d.init++((if d.kind=5 then [(1,d.on)] else [])++[(4,[59])])))
def A9g{n:Int}(h:n<0):B3 n=45::B3 (-n):=by
 unfold B3;rw[if_pos h,if_neg AA,show(-n).toNat=n.natAbs by omega]
def Alp(hd:Qt){n:Int}(hn : -9223372036854775808<n/\n<=9223372036854775807){r:List UInt8}(hr:Lu r):B7 (Jw n++r)=cons (Pk n) (B7 r):=by
 unfold Jw Pk;by_cases h:n=0
 .rw[if_pos h,if_pos h];exact(Aaa _).symm
 rw[if_neg h,if_neg h];by_cases h2:n<0
 .rw[if_pos h2,A9g h2];simp only[Bq];rw[E4,Ad9,E4,G6 AG,Af6 hd AA hr];simp only[Fu,Bq,Ba]
 .rw[if_neg h2];simp only[Bq];rw[E4,Ad9,E4,Af6 hd AA hr];simp only[Fu,Bq,Ba]
def Aqj(n:Int){r:List UInt8}(hr:Lu r):Lu (Jw n++r):=by
 unfold Jw
 split
 .exact hr
 .exact Iu _
def Bed(hd:Qt){d:Dp}(h:ShD d)(r:List UInt8):B7 (De d++59::10::r)=cons (Ml d) (B7 r):=by
 obtain⟨kind,line,nm,size,init,on⟩:=d;obtain⟨h1,h2,h3,h4,h5,h6⟩:=h;simp only at h1 h2 h3 h4 h5 h6;have qi:Lu (59::10::r):=Ma _ AG;have qp:B7 (59::10::r)=cons [(4,[59])] (B7 r):=by rw[G6 AG,Tw]
 have hw:kind=1\/kind=2\/kind=3\/kind=4\/kind=5\/kind=6:=by omega
 rcases hw with rfl | rfl | rfl | rfl | rfl | rfl
 .simp only[De,Ml,Ty,if_true,Bt,Bq,Ba];rw[show(118::97::114::32::(nm++((if size=0 then [] else 91::(B3 size++[93]))++(Jw init++59::10::r))))=[118,97,114]++32::(nm++((if size=0 then [] else 91::(B3 size++[93]))++(Jw init++59::10::r))) from rfl];rw[R4 rfl AG AG AG AG (Iu _),E4];by_cases hz:size=0
  .subst hz;simp only[if_true,Ba,Pl];rw[Ie h2 (Aqj _ qi),Alp hd AA qi,qp];simp[Fu]
  .simp only[Pl,hz,if_false,Bt,Bq,Ba];rw[Ie h2 (Ma _ AG),G6 AG,Af6 hd AA (Ma _ AG),G6 AG,Alp hd AA qi,qp];simp[Fu]
 .have hz:size=0:=h3.2.2 AA;subst hz;have e:De ⟨2,line,nm,0,init,on⟩++59::10::r=[118,111,108,97,116,105,108,101]++32::(nm++(Jw init++59::10::r)):=by simp[De]
  rw[e,R4 rfl AG AG AG AG (Iu _),E4,Ie h2 (Aqj _ qi),Alp hd AA qi,qp];simp[Fu,Ml,Ty,Pl]
 .have hz:size=0:=h3.2.2 AA;have hi:init=0:=h4.2.2 AA AA;subst hz hi;have e:De ⟨3,line,nm,0,0,on⟩++59::10::r=[109,117,116,101,120]++32::(nm++59::10::r):=by simp[De]
  rw[e,R4 rfl AG AG AG AG (Iu _),E4,Ie h2 qi,qp];simp[Fu,Ml,Ty,Pl,Pk]
 .have hz:size=0:=h3.2.2 AA;have hi:init=0:=h4.2.2 AA AA;subst hz hi;have e:De ⟨4,line,nm,0,0,on⟩++59::10::r=[114,119,108,111,99,107]++32::(nm++59::10::r):=by simp[De]
  rw[e,R4 rfl AG AG AG AG (Iu _),E4,Ie h2 qi,qp];simp[Fu,Ml,Ty,Pl,Pk]
 .have hz:size=0:=h3.2.2 AA;have hi:init=0:=h4.2.2 AA AA;subst hz hi;have e:De ⟨5,line,nm,0,0,on⟩++59::10::r=[99,111,110,100]++32::(nm++32::(on++59::10::r)):=by simp[De]
  rw[e,R4 rfl AG AG AG AG (Iu _),E4,Ie h2 (Iu _),E4,Ie (h5 rfl) qi,qp];simp[Fu,Ml,Ty,Pl,Pk]
 .have hz:size=0:=h3.2.2 AA;have hi:init=0:=h4.2.2 AA AA;subst hz hi;have e:De ⟨6,line,nm,0,0,on⟩++59::10::r=[102,117,116,117,114,101]++32::(nm++59::10::r):=by simp[De]
  rw[e,R4 rfl AG AG AG AG (Iu _),E4,Ie h2 qi,qp];simp[Fu,Ml,Ty,Pl,Pk]
def Amp(qa:Mk){n:Int}(hn:0<=n/\n<=9223372036854775807){ts:List Tk}{r:List Kt}(h:ts.map Tk.kt=(2,B3 n)::r):∃ qd,Hb ts=some (n,qd)/\qd.map Tk.kt=r:=by
 obtain⟨t,qd,rfl,h1,h2,h3⟩:=Eb h;exact⟨qd,by unfold Hb;simp only;rw[if_pos h1,h2,qa n hn],h3⟩
def Bee(qa:Mk){n:Int}(hn:0<=n/\n<=9223372036854775807){ts:List Tk}{r:List Kt}(hr:L7 [91] r=false)(h:ts.map Tk.kt=Pl n++r):∃ qd,Ts ts=some (n,qd)/\qd.map Tk.kt=r:=by
 unfold Pl at h;unfold Ts;by_cases hz:n=0
 .rw[if_pos hz,Ba]at h;rw[if_neg (by rw[Ta,h,hr];simp),hz];exact⟨ts,rfl,h⟩
 .rw[if_neg hz]at h;simp only[Bq,Ba]at h;obtain⟨t,qk,rfl,k1,k2,k3⟩:=Eb h;obtain⟨ql,a1,a2⟩:=Amp qa hn k3;obtain⟨qh,b1,b2⟩:=Nd a2;rw[if_pos (P6 (.inr rfl) k1 k2),Ow,a1];simp only;rw[if_neg hz,b1];exact⟨qh,rfl,b2⟩
def Aww(qa:Mk){n:Int}(hn : -9223372036854775808<n/\n<=9223372036854775807){ts:List Tk}{r:List Kt}(hr:L7 [61] r=false)(h:ts.map Tk.kt=Pk n++r):∃ qd,Qr ts=some (n,qd)/\qd.map Tk.kt=r:=by
 unfold Pk at h;unfold Qr;by_cases hz:n=0
 .rw[if_pos hz,Ba]at h;rw[if_neg (by rw[Ta,h,hr];simp),hz];exact⟨ts,rfl,h⟩
 rw[if_neg hz]at h;by_cases hm:n<0
 .rw[if_pos hm]at h;simp only[Bq,Ba]at h;obtain⟨t,qk,rfl,k1,k2,k3⟩:=Eb h;obtain⟨t2,ql,rfl,k4,k5,k6⟩:=Eb k3;obtain⟨qh,a1,a2⟩:=Amp qa AA k6;rw[if_pos (P6 (.inr rfl) k1 k2),Ow,if_pos (P6 (.inr rfl) k4 k5),Ow,a1];exact⟨qh,by simp,a2⟩
 .rw[if_neg hm]at h;simp only[Bq,Ba]at h;obtain⟨t,qk,rfl,k1,k2,k3⟩:=Eb h;obtain⟨t2,ql,rfl,k4,k5,k6⟩:=Eb k3;rw[if_pos (P6 (.inr rfl) k1 k2),Ow,if_neg (by rw[V6 (.inr k4)];simp)];obtain⟨qh,a1,a2⟩:=Amp qa AA k3;exact⟨qh,a1,a2⟩
def Beg{k:Int}(h:1<=k/\k<=6):G7 (Ty k)=k:=by
 have hw:k=1\/k=2\/k=3\/k=4\/k=5\/k=6:=by omega
 rcases hw with rfl | rfl | rfl | rfl | rfl | rfl<;>rfl
def Aer{d d':Dp}(h1:d.kind=d'.kind)(h2:d.nm=d'.nm)(h3:d.size=d'.size)(h4:d.init=d'.init)(h5:d.on=d'.on):Ab0 d d'=true:=by
 unfold Ab0;rw[h1,h2,h3,h4,h5];simp
def Beh(qa:Mk){d:Dp}(h:ShD d){ts:List Tk}{r:List Kt}(hm:ts.map Tk.kt=Ml d++r):N4 ts=true/\∃ d' qd,R3 ts=some (d',qd)/\qd.map Tk.kt=r/\Ab0 d d'=true:=by
 obtain⟨kind,line,nm,size,init,on⟩:=d;obtain⟨h1,h2,h3,h4,h5,h6⟩:=h;simp only at h1 h2 h3 h4 h5 h6;simp only[Ml,Bq,Bt,Ba]at hm;obtain⟨t,qk,rfl,k1,k2,k3⟩:=Eb hm;obtain⟨ql,a1,a2⟩:=O6 k3;have qC:=Beg h1;refine⟨by simp only[N4];rw[k1,k2,qC];simp;omega,?_⟩;simp only[R3,a1];rw[k2,qC];by_cases e1:kind=1
 .subst e1;rw[if_pos rfl];rw[if_neg AG,Ba]at a2
  obtain⟨qh,b1,b2⟩:=Bee qa (n:=size) AA (by
   unfold Pk
   split
   .rfl
   .split<;>rfl) a2
  obtain⟨qE,c1,c2⟩:=Aww qa (n:=init) AA rfl b2;obtain⟨qy,d1,d2⟩:=Nd c2;rw[b1];simp only;rw[c1];simp only;rw[d1];exact⟨_,_,rfl,d2,Aer rfl rfl rfl rfl (h6 AG)⟩
 have hz:size=0:=h3.2.2 e1;subst hz;rw[if_neg e1];simp only[Pl,if_true,Ba]at a2;by_cases e2:kind=2
 .subst e2;rw[if_pos rfl];rw[if_neg AG,Ba]at a2;obtain⟨qE,c1,c2⟩:=Aww qa (n:=init) AA rfl a2;obtain⟨qy,d1,d2⟩:=Nd c2;rw[c1];simp only;rw[d1];exact⟨_,_,rfl,d2,Aer rfl rfl rfl rfl (h6 AG)⟩
 have hi:init=0:=h4.2.2 e1 e2;subst hi;rw[if_neg e2];simp only[Pk,if_true,Ba]at a2;by_cases e5:kind=5
 .subst e5;rw[if_pos rfl];simp only[if_true,Bq,Ba]at a2;obtain⟨qh,b1,b2⟩:=O6 a2;obtain⟨qy,d1,d2⟩:=Nd b2;rw[b1];simp only;rw[d1];exact⟨_,_,rfl,d2,Aer rfl rfl rfl rfl rfl⟩
 .rw[if_neg e5];rw[if_neg e5,Ba]at a2;obtain⟨qy,d1,d2⟩:=Nd a2;rw[d1];exact⟨_,_,rfl,d2,Aer rfl rfl rfl rfl (h6 e5)⟩
def Atx(qa:Mk){r:List Kt}(hr:r≠[]->∃ r',r=(3,Pq)::r'):∀ {l:List Dp},(∀ d∈l,ShD d)->∀ {n:Nat} {ts:List Tk},ts.map Tk.kt=(l.map Ml).flatten++r->l.length<n->∃ l' qd,Lo n ts=some (l',qd)/\qd.map Tk.kt=r/\l.length=l'.length/\((l.zip l').all fun p=>Ab0 p.1 p.2)=true
 | [],_,n,ts,hm,hn=>by
  obtain⟨n,rfl⟩:∃ k,n=k+1:=⟨n - 1,by omega⟩;simp only[B0,Zg,Ba]at hm;refine⟨[],ts,?_,hm,rfl,rfl⟩;rw[Lo,if_neg ?_]
  cases ts with
  | nil=>simp[N4]
  | cons t ts=>
   obtain⟨r',e⟩:=hr (by rw[<-hm];simp);rw[e]at hm;obtain⟨t',qd,e2,k1,k2,k3⟩:=Eb hm;cases e2;simp only[N4];rw[k2];rw[show G7 Pq=0 from rfl];simp
 | d::l,h,n,ts,hm,hn=>by
  obtain⟨n,rfl⟩:∃ k,n=k+1:=⟨n - 1,by simp at hn;omega⟩;simp only[Aw,Fd,Bt]at hm;obtain⟨h1,d',qk,h2,h3,h4⟩:=Beh qa (h d B4) hm;obtain⟨l',ql,a1,a2,a3,a4⟩:=Atx qa hr (l:=l) (fun d hd=>h d (Cb _ hd)) (n:=n) h3 (by simp at hn;omega);refine⟨d'::l',ql,?_,a2,by simp[a3],by simp[h4];simpa using a4⟩;rw[Lo,if_pos h1,h2];simp only;rw[a1]
/-! threads -/
def Pr:List (List UInt8)->List Kt
 | []=>[]
 | [a]=>[(1,a)]
 | a::b::l=>(1,a)::(4,[44])::Pr (b::l)
def Ni(t:Tp):List Kt:=(3,Pq)::(1,t.nm)::(4,[40])::(Pr t.locals++(4,[41])::(4,[123])::(Sp.tokss t.body++[(4,[125])]))
def Ag9(p:Gp):List Kt:=(p.decls.map Ml).flatten++(p.thrs.map Ni).flatten
def Ayu:∀ {l:List (List UInt8)},(∀ s∈l,Bm s=true)->∀ r,Lu r->B7 (En l++r)=cons (Pr l) (B7 r)
 | [],_,r,_=>(Aaa _).symm
 | [a],h,r,hr=>Ie (h a AE) hr
 | a::b::l,h,r,hr=>by
  simp only[En,Pr,Bt,Bq];rw[Ie (h a AE) (Ma _ AG),G6 AG,E4,Ayu (l:=b::l) (fun s hs=>h s (Cb _ hs)) r hr];simp only[Fu,Bq,Ba]
def Bkp(hd:Qt){t:Tp}(h1:Bm t.nm=true)(h2:∀ s∈t.locals,Bm s=true)(h3:∀ s∈t.body,ShS s)(r:List UInt8):B7 (D9 t++r)=cons (Ni t) (B7 r):=by
 have e:D9 t++r=Pq++32::(t.nm++40::(En t.locals++41::32::123::10::(Sp.txts 1 t.body++125::10::r))):=by simp[D9,Pq]
 rw[e,R4 (w:=Pq) rfl AG AG AG AG (Iu _),E4,Ie h1 (Ma _ AG),G6 AG,Ayu h2 _ (Ma _ AG),G6 AG,E4,G6 AG,Tw,
  Af8 (d:=1) (fun s hs r=>Bec hd (h3 s hs) 1 r),G6 AG,Tw]
 simp only[Fu,Ni,Bq,Ba,Bt]
def Bei(hd:Qt){p:Gp}(h:ShG p):B7 (Ff p)=some (Ag9 p):=by
 have a:∀ (l:List Dp),(∀ d∈l,ShD d)->∀ r,B7 ((l.map fun d=>De d++[59,10]).flatten++r)=cons ((l.map Ml).flatten) (B7 r):=by
  intro l
  induction l with
  | nil=>intro _ r;exact(Aaa _).symm
  | cons d l ih=>
   intro hl r;simp only[Aw,Fd,Bt,Bq,Ba];rw[Bed hd (hl d B4),ih (fun d hd=>hl d (Cb _ hd)),Fu]
 have b:∀ (l:List Tp),(∀ t∈l,Bm t.nm=true)->(∀ t∈l,∀ s∈t.locals,Bm s=true)->(∀ t∈l,∀ s∈t.body,ShS s)->∀ r,B7 ((l.map D9).flatten++r)=cons ((l.map Ni).flatten) (B7 r):=by
  intro l
  induction l with
  | nil=>intro _ _ _ r;exact(Aaa _).symm
  | cons t l ih=>
   intro h1 h2 h3 r;simp only[Aw,Fd,Bt];rw[Bkp hd (h1 t B4) (h2 t B4) (h3 t B4),ih (fun t ht=>h1 t (Cb _ ht)) (fun t ht=>h2 t (Cb _ ht)) (fun t ht=>h3 t (Cb _ ht)),Fu]
 unfold Ff Ag9;rw[a p.decls h.decls,show(p.thrs.map D9).flatten=(p.thrs.map D9).flatten++[] by simp,b p.thrs h.nms h.locs h.thrs,Bkk];simp[cons]
def Ayv:∀ {l:List (List UInt8)},l≠[]->∀ {n:Nat} {ts:List Tk} {r:List Kt},ts.map Tk.kt=Pr l++(4,[41])::r->l.length<=n->∃ qd,Lx n ts=some (l,qd)/\qd.map Tk.kt=r
 | [],h,_,_,_,_,_=>absurd rfl h
 | [a],_,n,ts,r,hm,hn=>by
  obtain⟨n,rfl⟩:∃ k,n=k+1:=⟨n - 1,by simp at hn;omega⟩;obtain⟨qk,a1,a2⟩:=O6 (r:=(4,[41])::r) hm;obtain⟨ql,b1,b2⟩:=Nd a2;refine⟨ql,?_,b2⟩;rw[Lx,a1];simp only;rw[if_neg (by rw[Ta,a2];simp[L7]),b1];rfl
 | a::b::l,_,n,ts,r,hm,hn=>by
  obtain⟨n,rfl⟩:∃ k,n=k+1:=⟨n - 1,by simp at hn;omega⟩;obtain⟨qk,a1,a2⟩:=O6 (r:=(4,[44])::(Pr (b::l)++(4,[41])::r)) hm;obtain⟨t2,ql,rfl,k1,k2,k3⟩:=Eb a2;obtain⟨qh,b1,b2⟩:=Ayv (l:=b::l) AE (n:=n) k3 (by simp at hn ⊢;omega);refine⟨qh,?_,b2⟩;rw[Lx,a1];simp only;rw[if_pos (P6 (.inr rfl) k1 k2),Ow,b1]
def Bej{l:List (List UInt8)}{n:Nat}{ts:List Tk}{r:List Kt}(hm:ts.map Tk.kt=Pr l++(4,[41])::r)(hn:l.length<=n):∃ qd,Abz n ts=some (l,qd)/\qd.map Tk.kt=r:=by
 unfold Abz;by_cases h:l=[]
 .subst h;obtain⟨t,qd,rfl,k1,k2,k3⟩:=Eb (r:=r) hm;rw[if_pos (P6 (.inr rfl) k1 k2)];exact⟨qd,rfl,k3⟩
 .obtain⟨qd,a1,a2⟩:=Ayv h hm hn;refine⟨qd,?_,a2⟩;rw[if_neg ?_,a1];rw[Ta,hm]
  match l with
  | []=>exact absurd rfl h
  | [a]=>simp[Pr,L7]
  | a::b::l=>simp[Pr,L7]
def A9h{t t':Tp}(h1:t.nm=t'.nm)(h2:t.locals=t'.locals)(h3:Mb t.body t'.body=true):V7 t t'=true:=by
 unfold V7;rw[h1,h2,h3];simp
def Aty:∀ l:List (List UInt8),l.length<=(Pr l).length
 | []=>Aj _
 | [a]=>Aj _
 | a::b::l=>by
  have:=Aty (b::l);simp only[Pr,An]at this ⊢;omega
def Bkq(qa:Mk){t:Tp}(h:∀ s∈t.body,ShS s){n:Nat}{ts:List Tk}{r:List Kt}(hm:ts.map Tk.kt=Ni t++r)(hn:10*ts.length+2<=n):∃ t' qd,Sc n ts=some (t',qd)/\qd.map Tk.kt=r/\V7 t t'=true:=by
 have hl:=H5 hm;simp only[Ni,Bq,Bt,Ba]at hm;obtain⟨t0,qk,rfl,k1,k2,k3⟩:=Eb hm;obtain⟨ql,a1,a2⟩:=O6 k3;obtain⟨qh,b1,b2⟩:=Nd a2;have qM:=Aty t.locals;simp only[Ni,An,Aq,Dc]at hl;rw[An]at hn;obtain⟨qE,c1,c2⟩:=Bej (n:=n) b2 AA;have qI:=H5 c2;simp only[An,Aq]at qI;obtain⟨l',qy,d1,d2,d3⟩:=Z9 h (fun s hs=>Bd8 qa (h s hs)) (n:=n) c2 AA;refine⟨_,qy,?_,d2,A9h (t':=⟨t.nm,t0.line,true,0,t.locals,true,0,l'⟩) rfl rfl d3⟩;simp only[Sc,a1];rw[b1];simp only;rw[c1];simp only;rw[d1]
def Awx(qa:Mk){m:Nat}:∀ {l:List Tp},(∀ t∈l,∀ s∈t.body,ShS s)->∀ {n:Nat} {ts:List Tk},ts.map Tk.kt=(l.map Ni).flatten->10*ts.length+2<=m->l.length<n->∃ l',Lt m n ts=some (l',[])/\l.length=l'.length/\((l.zip l').all fun p=>V7 p.1 p.2)=true
 | [],_,n,ts,hm,_,hn=>by
  obtain⟨n,rfl⟩:∃ k,n=k+1:=⟨n - 1,by omega⟩;have:ts=[]:=by simpa using hm
  subst this;exact⟨[],by rw[Lt,if_neg (by simp[As])],rfl,rfl⟩
 | t::l,h,n,ts,hm,hb,hn=>by
  obtain⟨n,rfl⟩:∃ k,n=k+1:=⟨n - 1,by simp at hn;omega⟩;simp only[Aw,Fd]at hm;obtain⟨t',qk,a1,a2,a3⟩:=Bkq qa (h t B4) hm hb;have hl:=H5 hm;have qH:=H5 a2;rw[Aq]at hl;obtain⟨l',b1,b2,b3⟩:=Awx qa (m:=m) (l:=l) (fun t ht=>h t (Cb _ ht)) (n:=n) a2 AA (by simp at hn;omega);refine⟨t'::l',?_,by simp[b2],by simp[a3];simpa using b3⟩
  have qJ:As Pq ts=true:=by
   rw[Ta,hm];simp[Ni,L7]
  rw[Lt,if_pos qJ,a1];simp only;rw[b1]
def Alq{α:Type}(f:α->List Kt)(hf:∀ x,1<=(f x).length):∀ l:List α,l.length<=((l.map f).flatten).length
 | []=>Aj _
 | x::l=>by
  have:=Alq f hf l;have:=hf x;simp only[Aw,Fd,Aq,An];omega
def Bek(qa:Mk){p:Gp}(h:ShG p){ts:List Tk}(hm:ts.map Tk.kt=Ag9 p):∃ p',V5 ts=some (p',[])/\V8 p p'=true:=by
 have hl:=H5 hm;unfold Ag9 at hm hl;have g1:=Alq Ml (fun d=>by simp[Ml]) p.decls;have g2:=Alq Ni (fun t=>by simp[Ni]) p.thrs;rw[Aq]at hl
 obtain⟨l1,qk,a1,a2,a3,a4⟩:=Atx qa (r:=(p.thrs.map Ni).flatten) (fun qz=>by
  match hp:p.thrs with
  | []=>rw[hp]at qz;exact absurd rfl qz
  | t::l=>simp[Ni]) h.decls (n:=ts.length+1) hm AA
 have qH:=H5 a2;obtain⟨l2,b1,b2,b3⟩:=Awx qa (m:=Ng ts.length) (l:=p.thrs) h.thrs (n:=ts.length+1) a2 (by unfold Ng;omega) AA
 have qz:l2.isEmpty=false:=by
  cases l2 with
  | nil=>exact absurd (Zc.1 b2) h.some
  | cons _ _=>rfl
 refine⟨⟨true,0,l1,true,0,l2⟩,?_,?_⟩
 .unfold V5;rw[a1];simp only;rw[b1];simp only;rw[if_neg (by rw[qz];simp)]
 .unfold V8;simp only[a3,b2,a4,b3,beq_self_eq_true,Bool.and_self]
def Aqk(hd:Qt)(qa:Mk){p:Gp}(h:ShG p)(hl:(Ff p).length<=4096):∃ p',Jm (Ff p)=some p'/\V8 p p'=true:=by
 have hs:=Bei hd h;unfold B7 Ut at hs;obtain⟨ts,h1,h2⟩:=Cf.1 hs;obtain⟨p',h3,h4⟩:=Bek qa h h2;refine⟨p',?_,h4⟩;unfold Jm;rw[if_neg AA,h1];simp only;rw[h3]
/-! equal expressions have the same tokens and texts -/
mutual
theorem Aea:∀ (x y:Xp),H3 x y=true->x.op=y.op/\x.toks=y.toks/\x.txt=y.txt
 | ⟨op,n,nm,z,t,l⟩,⟨op',n',nm',z',t',l'⟩,h=>by
  simp only[H3,Ai,beq_iff_eq]at h;obtain⟨rfl,rfl,rfl,h⟩:=h;obtain⟨h1,h2⟩:=Aql l l' h
  simp_all [Xp.toks,Xp.txt]
theorem Aql:∀ (l l':List Xp),Jn l l'=true->Xp.tokss l=Xp.tokss l'/\Xp.txts l=Xp.txts l'
 | [],[],_=>⟨rfl,rfl⟩
 | x::l,y::l',h=>by
  simp only[Jn,Ai]at h;obtain⟨h1,h2,h3⟩:=Aea x y h.1;obtain⟨h4,h5⟩:=Aql l l' h.2
  simp_all [Xp.tokss,Xp.txts]
 | [],_::_,h=>by cases h
 | _::_,[],h=>by cases h
end
/-! what is parsed has no more tokens than its text needs -/
def Bel(s:List UInt8):Gl s=(0,0)\/((6<=(Gl s).1/\(Gl s).1<=18)/\(Gl s).2=Be (Gl s).1):=by
 unfold Gl
 cases h:opTab.lookup s with
 | none=>grind
 | some p=>
  have hm:∃ k,(k,p)∈opTab:=by
   revert h;generalize opTab=l
   induction l with
   | nil=>grind
   | cons q l ih=>
    grind
  obtain⟨k,hk⟩:=hm;have qG:(opTab.all fun q=>decide ((6<=q.2.1/\q.2.1<=18)/\q.2.2=Be q.2.1))=true:=by decide
  grind
def A9i{lvl:Nat}{ts:List Tk}(h:H8 lvl ts≠0):(6<=H8 lvl ts/\H8 lvl ts<=18)/\Be (H8 lvl ts)=lvl/\ts.length=ts.tail.length+1:=by
 cases ts with
 | nil=>exact absurd rfl h
 | cons t ts=>
  simp only[H8]at h ⊢
  split at h
  .split at h
   .rename_i h1 h2;rw[if_pos h1,if_pos h2];rcases Bel t.text with e | e
    .grind
    grind
   omega
  omega
/-! parentheses -/
def bd:Nat->List UInt8->Option Nat
 | d,[]=>some d
 | d,c::r=>if c=40 then bd (d+1) r else if c=41 then(if d<=1 then none else bd (d - 1) r) else bd d r
def flatB(l:List UInt8):Prop:=∀ c∈l,c≠40/\c≠41
def Tz{x:Xp}(h:Cn x):1<=x.op/\x.op<=18:=by
 cases h with
 | num _=>grind
 | name=>grind
 | idx _=>grind
 | un h _=>grind
 | bin h _ _=>grind
def Abi{op:Int}(h:1<=op/\op<=18):∃ i:Nat,i<18/\op=(i:Int)+1:=⟨(op - 1).toNat,by omega,by omega⟩
def A52:((List.range 18).all fun i=>match (Lp (Oj TT PT 300) af176 [iV ((i:Int)+1)] []).bind fun p=>Ed p.2 p.1 with
  | some (.tup [.str s,.int .i64 n])=>s==Bz ((i:Int)+1)&&n==Be ((i:Int)+1)
  | _=>false)=true:=by kernel_rfl
def Xu{op:Int}(h:1<=op/\op<=18):Fn TT PT 176 [iV op] (.tup [.str (Bz op),iV (Be op)]):=by
 obtain⟨i,hi,rfl⟩:=Abi h;have hr:=Bu.1 A52 i (Eg.2 hi)
 split at hr
 .rename_i s n hv;simp only[Ai,beq_iff_eq]at hr;rw[<-hr.1,<-hr.2];exact Rh Sf T176 rfl rfl hv
 .cases hr
def Bem:((List.range 18).all fun i=>match (Lp (Oj TT PT 300) af237 [iV ((i:Int)+1)] []).bind fun p=>Ed p.2 p.1 with
  | some (.agg [.str s,.int .i64 n])=>s==Bz ((i:Int)+1)&&n==Be ((i:Int)+1)
  | _=>false)=true:=by kernel_rfl
def Yo{op:Int}(h:1<=op/\op<=18):Fn TT PT 237 [iV op] (.agg [.str (Bz op),iV (Be op)]):=by
 obtain⟨i,hi,rfl⟩:=Abi h;have hr:=Bu.1 Bem i (Eg.2 hi)
 split at hr
 .rename_i s n hv;simp only[Ai,beq_iff_eq]at hr;rw[<-hr.1,<-hr.2];exact Rh Sf T237 rfl rfl hv
 .cases hr
def Ben:((List.range 18).all fun i=>decide ((Bz ((i:Int)+1)).length<=2/\1<=Be ((i:Int)+1)/\Be ((i:Int)+1)<=7))=true:=by decide
def Af9{op:Int}(h:1<=op/\op<=18):(Bz op).length<=2/\1<=Be op/\Be op<=7:=by
 obtain⟨i,hi,rfl⟩:=Abi h;exact of_decide_eq_true (Bu.1 Ben i (Eg.2 hi))
theorem Dw(x:Xp):Da (.agg x.row)=true:=by
 rw[Bi];simp only[go_sem]
def Ap{a b c:List UInt8}(h:a.length+b.length<=9223372036854775807)(hc:a++b=c):Al .add a b=some (.str c):=by
 simp_all [Al]
def O7(o:Int × List UInt8)(qb:Int):o.2.length<=(Dg o qb).length/\(Dg o qb).length<=o.2.length+2:=by
 grind[Dg]
def Amq{x:Xp}(he:Fn TT PT 144 [.agg x.row] (.str x.txt))(ho:1<=x.op/\x.op<=18)(hl:x.txt.length<=1000000000000000)(qb:Int):Fn TT PT 177 [.agg x.row,iV qb] (.str (Dg (x.op,x.txt) qb)):=by
 have hs:=Xu ho;have qg:=Dw x;rw[Bi]at he qg ⊢;refine Bg T177 rfl ?_;have a1:Al .add [40] x.txt=some (.str (40::x.txt)):=Ap (by grind) rfl;have a2:Al .add (40::x.txt) [41]=some (.str (40::(x.txt++[41]))):=Ap (by grind) AE;unfold Dg;by_cases h:Be x.op<qb
 .rw[if_pos h];have f:(Be x.op<qb)=True:=eq_true h;simp only[go_sem];refine Ab hs AB ?_;simp only[go_sem,f];refine Ab he (by grind) ?_;simp only[go_sem,↓a1,↓a2];exact Fw rfl
 .rw[if_neg h];have f:(Be x.op<qb)=False:=eq_false h;simp only[go_sem];refine Ab hs AB ?_;simp only[go_sem,f];refine Ab he (by grind) ?_;simp only[go_sem];exact Fw rfl
set_option maxHeartbeats 4000000 in
def Aac{x:Xp}(h:Cn x):x.txt.length<=1000000000000000->Fn TT PT 144 [.agg x.row] (.str x.txt):=by
 induction h with
 | @num n nm z t hn=>
  intro hl;have hs:=Xu (op:=1) AA;rw[Bi,Ei];simp only[B0,Dr,if_true];refine Bg T144 rfl ?_;have hf:Qx [iV n,iV 10]=some (.str (B3 n)):=by unfold Qx;exact if_pos hn
  simp only[go_sem];refine Ab hs AB ?_;simp only[go_sem,Int.reduceBEq];refine Fm P62 AB hf ?_;simp only[go_sem];exact Fw rfl
 | @name n nm z t=>
  intro hl;have hs:=Xu (op:=2) AA;rw[Bi,Ei];simp only[B0,Dr];refine Bg T144 rfl ?_;simp only[go_sem];refine Ab hs AB ?_;simp only[go_sem,Int.reduceBEq];exact Fw rfl
 | @idx n nm z t a ha ih=>
  intro hl;have hs:=Xu (op:=3) AA;rw[Bi];rw[Ei]at hl ⊢;simp only[Aw,B0,Dr]at hl ⊢;have hl:nm.length+a.txt.length+2<=1000000000000000:=by simp at hl;omega
  have hi:=ih AA;rw[Bi a]at hi ⊢;refine Bg T144 rfl ?_;simp only[go_sem];refine Ab hs AB ?_;simp only[go_sem,Int.reduceBEq];have a1:Al .add nm [91]=some (.str (nm++[91])):=Ap (by grind) rfl;have a2:Al .add (nm++[91]) a.txt=some (.str (nm++91::a.txt)):=Ap (by grind) AE;have a3:Al .add (nm++91::a.txt) [93]=some (.str (nm++91::(a.txt++[93]))):=Ap (by grind) AE;refine Af AD ?_;simp only[go_sem,↓a1];refine Bf hi AB ?_;simp only[go_sem,↓a2,↓a3];exact Fw rfl
 | @un op n nm z t a qc ha ih=>
  intro hl;have ho:1<=op/\op<=18:=by omega
  have hs:=Xu ho
  have qs:Be op=6:=by rcases qc with rfl | rfl<;>rfl
  rw[qs]at hs;obtain⟨s1,-,-⟩:=Af9 ho;rw[Bi];rw[Ei]at hl ⊢
  have e1:Dr op n nm [(a.op,a.txt)]=Bz op++Dg (a.op,a.txt) 6:=by
   unfold Dr;rw[if_neg AA,if_neg AA];simp only;rw[if_neg AA]
  simp only[Aw,B0,e1,Aq]at hl ⊢;obtain⟨p1,p2⟩:=O7 (a.op,a.txt) 6;have hi:=Amq (ih (by grind)) (Tz ha) (by grind) 6;rw[Bi a]at hi ⊢;refine Bg T144 rfl ?_;have b1:(op==1)=false:=by simp;omega
  have b2:(op==2)=false:=by simp;omega
  have b3:(op==3)=false:=by simp;omega
  simp only[go_sem];refine Ab hs AB ?_;simp only[go_sem,Int.reduceBEq,b1,b2,b3];refine Ab hi AB ?_;have a1:Al .add (Bz op) (Dg (a.op,a.txt) 6)=some (.str (Bz op++Dg (a.op,a.txt) 6)):=Ap AA rfl;simp only[go_sem,↓a1];exact Fw rfl
 | @bin op n nm z t a b qc ha hb iha ihb=>
  intro hl;have ho:1<=op/\op<=18:=by omega
  have hs:=Xu ho;obtain⟨s1,s2,s3⟩:=Af9 ho
  have qs:Be op<6:=by
   obtain⟨i,hi,rfl⟩:=Abi ho;have:((List.range 18).all fun i=>decide (5<=i->Be ((i:Int)+1)<6))=true:=by decide
   exact of_decide_eq_true (Bu.1 this i (Eg.2 hi)) AA
  rw[Bi];rw[Ei]at hl ⊢
  have e1:Dr op n nm [(a.op,a.txt),(b.op,b.txt)]=Dg (a.op,a.txt) (Gi op)++32::(Bz op++32::Dg (b.op,b.txt) (Be op+1)):=by
   unfold Dr;rw[if_neg AA,if_neg AA]
  simp only[Aw,B0,e1,Aq,An]at hl ⊢;obtain⟨p1,p2⟩:=O7 (a.op,a.txt) (Gi op);obtain⟨q1,q2⟩:=O7 (b.op,b.txt) (Be op+1);simp only at p1 q1;have hi:=Amq (iha AA) (Tz ha) AA (Gi op);have hj:=Amq (ihb AA) (Tz hb) AA (Be op+1);rw[Bi a]at hi ⊢;rw[Bi b]at hj ⊢;refine Bg T144 rfl ?_;have b1:(op==1)=false:=by simp;omega
  have b2:(op==2)=false:=by simp;omega
  have b3:(op==3)=false:=by simp;omega
  have b6:(Be op==6)=false:=by simp;omega
  have f6:(Be op<6)=True:=eq_true qs;have w1:IntKind.i64.wrap (Be op+1)=Be op+1:=Cm AA;generalize Dg (a.op,a.txt) (Gi op)=pa at hl hi p1 p2 ⊢;generalize Dg (b.op,b.txt) (Be op+1)=pb at hl hj q1 q2 ⊢;have a1:Al .add pa [32]=some (.str (pa++[32])):=Ap (by grind) rfl;have a2:Al .add (pa++[32]) (Bz op)=some (.str (pa++32::Bz op)):=Ap (by grind) AE;have a3:Al .add (pa++32::Bz op) [32]=some (.str (pa++32::(Bz op++[32]))):=Ap (by grind) AE;have a4:Al .add (pa++32::(Bz op++[32])) pb=some (.str (pa++32::(Bz op++32::pb))):=Ap (by grind) AE;cases h3:(Be op==3)
  all_goals
   have qj:Gi op=(if(Be op==3)=true then 4 else Be op):=by unfold Gi;simp
   rw[h3]at qj;simp only[if_true,if_false,Hg]at qj;rw[qj]at hi;simp only[go_sem];refine Ab hs AB ?_;simp only[go_sem,Int.reduceBEq,b1,b2,b3,b6,f6,h3];refine Af AD ?_;simp only[go_sem];refine Bf hi AB ?_;simp only[go_sem,↓a1,↓a2,↓a3,w1];refine Bf hj AB ?_;simp only[go_sem,↓a4];exact Fw rfl
def WB(s0 s:St)(b:Nat)(l:List UInt8):Prop:=(∃ u,BL s b u l)/\Cl s/\s0.length<=s.length/\∀ (j:Nat) (cs:List V) (e g z:Nat),j≠b->e≠5->s0[j]?=some (.row cs e g z)->s[j]?=some (.row cs e g z)
def Atz{s:St}{b:Nat}{u:V}{l:List UInt8}(h:BL s b u l)(hc:Cl s):WB s s b l:=⟨⟨u,h⟩,hc,Aj _,fun _ _ _ _ _ _ _ h=>h⟩
theorem Li{s0 s1 s2:St}{b:Nat}{l l':List UInt8}(h1:WB s0 s1 b l)(h2:WB s1 s2 b l'):WB s0 s2 b l':=
 ⟨h2.1,h2.2.1,C8 h1.2.2.1 h2.2.2.1,fun j cs e g z hj he h=>h2.2.2.2 j cs e g z hj he (h1.2.2.2 j cs e g z hj he h)⟩
def N0{s0 s:St}{b:Nat}{l:List UInt8}{cs:List V}{t:Nat}(h:WB s0 s b l)(hr:cs.all V.rowB=true):WB s0 (s++[.row cs t 0 0]) b l:=by
 obtain⟨⟨u,h1⟩,h2,h3,h4⟩:=h;refine⟨⟨u,Bd5 h1⟩,Jl h2 hr,by grind,fun j cs e g z hj he h=>By (h4 j cs e g z hj he h)⟩
def Vn{s0 s:St}{b:Nat}{l:List UInt8}(h:WB s0 s b l):WB s s b l:=⟨h.1,h.2.1,Aj _,fun _ _ _ _ _ _ _ h=>h⟩
def Hh{s0 s:St}{b:Nat}{l:List UInt8}(h:WB s0 s b l)(t:List UInt8)(hb:l.length+t.length<=100000000000000):∃ s',Th TT PT 187 [.ptr b 0 0,.str t] s (.tup [iV (t.length:Int),.nili]) s'/\WB s0 s' b (l++t)/\WB s s' b (l++t):=by
 obtain⟨⟨u,h1⟩,h2,h3,h4⟩:=h;obtain⟨s',u',q1,q2,q3,q4,q5⟩:=A9a t h1 h2 hb
 have hw:WB s s' b (l++t):=by
  refine⟨⟨u',q2⟩,q3,q4,fun j cs e g z hj he hs=>?_⟩;rw[q5 j hj ?_ (Ao.1 hs).1]
  .exact hs
  .intro hm;obtain⟨p,-,-,hg⟩:=h1;rcases hg with⟨rfl,-⟩ | ⟨-,i,g',rfl,ho,-⟩
   .grind[V.refs]
   grind[V.refs]
 exact⟨s',q1,Li ⟨⟨u,h1⟩,h2,h3,h4⟩ hw,hw⟩
def V9{T:Nat->Option AF}{pr:Nat->Option (List V->Option V)}{f p:Nat}{res:List AR}{body:AC}{vs:List V}{v:V}{σ:St}{R:St->Prop}(hT:T f=some ⟨p,res,true,body,none⟩)(hl:vs.length=p)
  (h:W T pr [.c body] (C4 0 vs) σ (Hd fun e' σ1=>Cd e' σ1 res=some v/\R σ1)) (hr:v.refs=[]) (ho:Ci v=true) (hR:∀ σ1,R σ1->σ.length<=σ1.length/\Cl σ1):∃ σ',Th T pr f vs σ v σ'/\R σ':=by
 obtain⟨e',σ1,hE,qA,h1⟩:=h;obtain⟨h2,h3⟩:=hR σ1 h1;exact⟨σ1,Af1 hT hl ⟨e',σ1,hE,qA,rfl⟩ hr ho h2 h3,h1⟩
def Adz{x a:Xp}{i:Nat}(h:x.l[i]?=some a)(hi:i<2):Fn TT PT 239 [.agg x.row,iV (i:Int)] (.agg a.row):=by
 have qL:=(Ao.1 h).1;rw[Bi x];have qg:=Dw a;have hn:(x.l.map Xp.row).length=x.l.length:=Ar ..;have g1:((x.l.length:Int)<=(i:Int))=False:=eq_false AA;refine Bg T239 rfl ?_;rw[Bi a]at qg ⊢;have qo:a.row=(xR a):=Bi a;simp only[go_sem,hn,g1,Au,h,qo];exact Fw qg
def Aga{x:Xp}(ho:1<=x.op/\x.op<=18){s0 s:St}{b:Nat}{l:List UInt8}(hx:∀ (s:St) (l:List UInt8),WB s s b l->l.length+x.txt.length<=10000000000000->∃ s',Th TT PT 228 [.ptr b 0 0,.agg x.row] s (.tup []) s'/\WB s s' b (l++x.txt))(qb:Int)(h:WB s0 s b l)(hl:l.length+(Dg (x.op,x.txt) qb).length<=10000000000000):
  ∃ s',Th TT PT 238 [.ptr b 0 0,.agg x.row,iV qb] s (.tup []) s'/\WB s s' b (l++Dg (x.op,x.txt) qb):=by
 have qc:=Yo ho;have qg:=Dw x;have qv:=Vn h;refine V9 T238 rfl ?_ rfl rfl (fun σ1 h=>⟨h.2.2.1,h.2.1⟩);rw[Bi]at hx qg ⊢;have qo:([iV x.op,iV x.n,.str x.nm,SL x.z x.t (x.l.map Xp.row)]).all V.rowB=true:=qg;obtain⟨s1,e1⟩:∃ s1,s1=s++[xO x]:=⟨_,rfl⟩;have w1:WB s s1 b l:=by rw[e1];exact N0 qv qo
 have k1:s1[s.length]?=some (xO x):=by rw[e1,F6 (Aj _),Is];rfl
 have qe:s.length≠b:=by
  obtain⟨⟨u,p,hb,-⟩,-⟩:=h;have:=(Ao.1 hb).1;omega
 unfold Dg at hl ⊢;by_cases qD:Be x.op<qb
 .have f:(qb<=Be x.op)=False:=eq_false AA;rw[if_pos qD]at hl ⊢;simp only[An,Aq,Dc]at hl;obtain⟨s2,q2,w2,v2⟩:=Hh w1 [40] (by grind);obtain⟨s3,q3,v3⟩:=hx s2 (l++[40]) (Vn w2) (by grind);obtain⟨s4,q4,w4,v4⟩:=Hh (Li w2 v3) [41] (by grind);have k2:=v2.2.2.2 s.length _ _ _ _ qe AG k1;simp only[go_sem];refine Ab qc AB ?_;simp only[go_sem,f];rw[e1]at q2;refine Ca q2 ?_;simp only[go_sem,k2];refine Ca q3 ?_;simp only[go_sem];refine Ca q4 ?_;simp only[go_sem];exact⟨rfl,by grind⟩
 .have f:(qb<=Be x.op)=True:=eq_true AA;rw[if_neg qD]at hl ⊢;obtain⟨s3,q3,v3⟩:=hx s1 l (Vn w1) AA;rw[e1]at q3;simp only[go_sem];refine Ab qc AB ?_;simp only[go_sem,f];refine Ca q3 ?_;simp only[go_sem];exact⟨rfl,Li w1 v3⟩
def A9j{x:Xp}(h:Cn x):∀ (s:St) (b:Nat) (l:List UInt8),WB s s b l->l.length+x.txt.length<=10000000000000->∃ s',Th TT PT 228 [.ptr b 0 0,.agg x.row] s (.tup []) s'/\WB s s' b (l++x.txt):=by
 induction h with
 | @num n nm z t hn=>
  intro s b l h hl;rw[Ei]at hl ⊢;simp only[B0,Dr,if_true]at hl ⊢
  have qe:s.length≠b:=by
   obtain⟨⟨u,p,hb,-⟩,-⟩:=h;have:=(Ao.1 hb).1;omega
  have qc:=Yo (op:=1) AA;have hf:Qx [iV n,iV 10]=some (.str (B3 n)):=by unfold Qx;exact if_pos hn
  refine V9 T228 rfl ?_ rfl rfl (fun σ1 h=>⟨h.2.2.1,h.2.1⟩);rw[Bi];obtain⟨s1,e1⟩:∃ s1,s1=s++[Ob.row [iV 1,iV n,.str nm,SL z t []] 96 0 0,Ob.row [.str (Bz 1),iV (Be 1)] 296 0 0]:=⟨_,rfl⟩
  have w1:WB s s1 b l:=by
   have:=N0 (N0 h (t:=96) (cs:=[iV 1,iV n,.str nm,SL z t []]) AB) (t:=296) (cs:=[.str (Bz 1),iV (Be 1)]) rfl;rw[e1];simpa using this
  obtain⟨s2,q2,w2,v2⟩:=Hh w1 (B3 n) AA;rw[e1]at q2;simp only[B0];simp only[go_sem];refine Ab qc AB ?_;simp only[go_sem,Int.reduceBEq];refine Fm P62 AB hf ?_;simp only[go_sem];refine Ca q2 ?_;simp only[go_sem];exact⟨rfl,w2⟩
 | @name n nm z t=>
  intro s b l h hl;rw[Ei]at hl ⊢;simp only[B0,Dr,show((2:Int)=1)=False from eq_false AA,if_false,if_true]at hl ⊢
  have qe:s.length≠b:=by
   obtain⟨⟨u,p,hb,-⟩,-⟩:=h;have:=(Ao.1 hb).1;omega
  have qc:=Yo (op:=2) AA;refine V9 T228 rfl ?_ rfl rfl (fun σ1 h=>⟨h.2.2.1,h.2.1⟩);rw[Bi];obtain⟨s1,e1⟩:∃ s1,s1=s++[Ob.row [iV 2,iV n,.str nm,SL z t []] 96 0 0,Ob.row [.str (Bz 2),iV (Be 2)] 296 0 0]:=⟨_,rfl⟩
  have w1:WB s s1 b l:=by
   have:=N0 (N0 h (t:=96) (cs:=[iV 2,iV n,.str nm,SL z t []]) AB) (t:=296) (cs:=[.str (Bz 2),iV (Be 2)]) rfl;rw[e1];simpa using this
  obtain⟨s2,q2,w2,v2⟩:=Hh w1 nm AA;rw[e1]at q2;simp only[B0];have lv:(Be 2==7)=true:=by decide
  simp only[go_sem];refine Ab qc AB ?_;simp only[go_sem,Int.reduceBEq,lv];refine Ca q2 ?_;simp only[go_sem];exact⟨rfl,w2⟩
 | @idx n nm z t a ha ih=>
  intro s b l h hl;rw[Ei]at hl ⊢;simp only[Aw,B0,Dr,show((3:Int)=1)=False from eq_false AA,show((3:Int)=2)=False from eq_false AA,if_false,if_true]at hl ⊢;have hl:l.length+nm.length+a.txt.length+2<=10000000000000:=by simp at hl;omega
  have qe:s.length≠b:=by
   obtain⟨⟨u,p,hb,-⟩,-⟩:=h;have:=(Ao.1 hb).1;omega
  have qc:=Yo (op:=3) AA;have qf:=Adz (x:=⟨3,n,nm,z,t,[a]⟩) (a:=a) (i:=0) rfl AA;refine V9 T228 rfl ?_ rfl rfl (fun σ1 h=>⟨h.2.2.1,h.2.1⟩);rw[Bi]at qf ⊢;simp only[Aw,B0]at qf ⊢;obtain⟨s1,e1⟩:∃ s1,s1=s++[Ob.row [iV 3,iV n,.str nm,SL z t [a.row]] 96 0 0,Ob.row [.str (Bz 3),iV (Be 3)] 296 0 0]:=⟨_,rfl⟩
  have w1:WB s s1 b l:=by
   have:=N0 (N0 h (t:=96) (cs:=[iV 3,iV n,.str nm,SL z t [a.row]]) AB) (t:=296) (cs:=[.str (Bz 3),iV (Be 3)]) rfl;rw[e1];simpa using this
  have k1:s1[s.length]?=some (.row [iV 3,iV n,.str nm,SL z t [a.row]] 96 0 0):=by rw[e1,F6 (Aj _),Is];rfl
  obtain⟨s2,q2,w2,v2⟩:=Hh w1 nm AA;obtain⟨s3,q3,w3,v3⟩:=Hh w2 [91] (by grind);have k3:=(Li v2 v3).2.2.2 s.length _ _ _ _ qe AG k1
  have qj:Dg (a.op,a.txt) 1=a.txt:=by
   unfold Dg;have:=(Af9 (Tz ha)).2.1;exact if_neg (by grind)
  obtain⟨s4,q4,v4⟩:=Aga (Tz ha) (fun s l h hl=>ih s b l h hl) 1 w3 (by grind);rw[qj]at v4;obtain⟨s5,q5,w5,v5⟩:=Hh (Li w3 v4) [93] (by grind);rw[e1]at q2;have qB:=Dw a;simp only[go_sem];refine Ab qc AB ?_;simp only[go_sem,Int.reduceBEq];refine Ca q2 ?_;simp only[go_sem];refine Ca q3 ?_;simp only[go_sem,k3];refine Ab qf AB ?_;simp only[go_sem];refine Ca q4 ?_;simp only[go_sem];refine Ca q5 ?_;simp only[go_sem];exact⟨rfl,by grind⟩
 | @un op n nm z t a qu ha ih=>
  intro s b l h hl;have ho:1<=op/\op<=18:=by omega
  have qs:Be op=6:=by rcases qu with rfl | rfl<;>rfl
  rw[Ei]at hl ⊢
  have e0:Dr op n nm [(a.op,a.txt)]=Bz op++Dg (a.op,a.txt) 6:=by
   unfold Dr;rw[if_neg AA,if_neg AA];simp only;rw[if_neg AA]
  simp only[Aw,B0,e0,Aq]at hl ⊢;obtain⟨p1,p2⟩:=O7 (a.op,a.txt) 6;simp only at p1
  have qe:s.length≠b:=by
   obtain⟨⟨u,p,hb,-⟩,-⟩:=h;have:=(Ao.1 hb).1;omega
  have qc:=Yo ho;rw[qs]at qc;have qf:=Adz (x:=⟨op,n,nm,z,t,[a]⟩) (a:=a) (i:=0) rfl AA;refine V9 T228 rfl ?_ rfl rfl (fun σ1 h=>⟨h.2.2.1,h.2.1⟩);rw[Bi]at qf ⊢;simp only[Aw,B0]at qf ⊢;obtain⟨s1,e1⟩:∃ s1,s1=s++[Ob.row [iV op,iV n,.str nm,SL z t [a.row]] 96 0 0,Ob.row [.str (Bz op),iV 6] 296 0 0]:=⟨_,rfl⟩
  have w1:WB s s1 b l:=by
   have:=N0 (N0 h (t:=96) (cs:=[iV op,iV n,.str nm,SL z t [a.row]]) AB) (t:=296) (cs:=[.str (Bz op),iV 6]) rfl;rw[e1];simpa using this
  have k1:s1[s.length]?=some (.row [iV op,iV n,.str nm,SL z t [a.row]] 96 0 0):=by rw[e1,F6 (Aj _),Is];rfl
  obtain⟨s2,q2,w2,v2⟩:=Hh w1 (Bz op) AA;have k2:=v2.2.2.2 s.length _ _ _ _ qe AG k1;obtain⟨s3,q3,v3⟩:=Aga (Tz ha) (fun s l h hl=>ih s b l h hl) 6 w2 (by grind);rw[e1]at q2;have b1:(op==1)=false:=by simp;omega
  have b3:(op==3)=false:=by simp;omega
  simp only[go_sem];refine Ab qc AB ?_;simp only[go_sem,Int.reduceBEq,b1,b3];refine Ca q2 ?_;simp only[go_sem,k2];refine Ab qf AB ?_;simp only[go_sem];refine Ca q3 ?_;simp only[go_sem];exact⟨rfl,by grind[Li]⟩
 | @bin op n nm z t a c qu ha hc iha ihc=>
  intro s b l h hl;have ho:1<=op/\op<=18:=by omega
  obtain⟨qN,qO,qP⟩:=Af9 ho
  have qs:Be op<6:=by
   obtain⟨i,hi,rfl⟩:=Abi ho;have:((List.range 18).all fun i=>decide (5<=i->Be ((i:Int)+1)<6))=true:=by decide
   exact of_decide_eq_true (Bu.1 this i (Eg.2 hi)) AA
  rw[Ei]at hl ⊢
  have e0:Dr op n nm [(a.op,a.txt),(c.op,c.txt)]=Dg (a.op,a.txt) (Gi op)++32::(Bz op++32::Dg (c.op,c.txt) (Be op+1)):=by
   unfold Dr;rw[if_neg AA,if_neg AA]
  simp only[Aw,B0,e0,Aq,An]at hl ⊢
  have qe:s.length≠b/\s.length+1≠b:=by
   obtain⟨⟨u,p,hb,-⟩,-⟩:=h;have:=(Ao.1 hb).1;omega
  have qc:=Yo ho;have qm:=Adz (x:=⟨op,n,nm,z,t,[a,c]⟩) (a:=a) (i:=0) rfl AA;have qn:=Adz (x:=⟨op,n,nm,z,t,[a,c]⟩) (a:=c) (i:=1) rfl AA;refine V9 T228 rfl ?_ rfl rfl (fun σ1 h=>⟨h.2.2.1,h.2.1⟩);rw[Bi]at qm qn ⊢;simp only[Aw,B0]at qm qn ⊢;obtain⟨s1,e1⟩:∃ s1,s1=s++[Ob.row [iV op,iV n,.str nm,SL z t [a.row,c.row]] 96 0 0,Ob.row [.str (Bz op),iV (Be op)] 296 0 0]:=⟨_,rfl⟩
  have w1:WB s s1 b l:=by
   have:=N0 (N0 h (t:=96) (cs:=[iV op,iV n,.str nm,SL z t [a.row,c.row]]) AB) (t:=296) (cs:=[.str (Bz op),iV (Be op)]) rfl;rw[e1];simpa using this
  have k1:s1[s.length]?=some (.row [iV op,iV n,.str nm,SL z t [a.row,c.row]] 96 0 0):=by rw[e1,F6 (Aj _),Is];rfl
  have m1:s1[s.length+1]?=some (.row [.str (Bz op),iV (Be op)] 296 0 0):=by rw[e1,F6 AA,Nat.add_sub_cancel_left];rfl
  have qj:Gi op=(if(Be op==3)=true then 4 else Be op):=by unfold Gi;simp
  obtain⟨s2,q2,v2⟩:=Aga (Tz ha) (fun s l h hl=>iha s b l h hl) (Gi op) w1 AA;have k2:=v2.2.2.2 s.length _ _ _ _ qe.1 AG k1;have m2:=v2.2.2.2 (s.length+1) _ _ _ _ qe.2 AG m1;obtain⟨s3,q3,w3,v3⟩:=Hh v2 [32] (by grind);have k3:=v3.2.2.2 s.length _ _ _ _ qe.1 AG k2;have m3:=v3.2.2.2 (s.length+1) _ _ _ _ qe.2 AG m2;obtain⟨s4,q4,w4,v4⟩:=Hh v3 (Bz op) (by grind);have k4:=v4.2.2.2 s.length _ _ _ _ qe.1 AG k3;have m4:=v4.2.2.2 (s.length+1) _ _ _ _ qe.2 AG m3;obtain⟨s5,q5,w5,v5⟩:=Hh v4 [32] (by grind);have k5:=v5.2.2.2 s.length _ _ _ _ qe.1 AG k4;have m5:=v5.2.2.2 (s.length+1) _ _ _ _ qe.2 AG m4;obtain⟨s6,q6,v6⟩:=Aga (Tz hc) (fun s l h hl=>ihc s b l h hl) (Be op+1) v5 (by grind);rw[e1]at q2;have b1:(op==1)=false:=by simp;omega
  have b3:(op==3)=false:=by simp;omega
  have b7:(Be op==7)=false:=by simp;omega
  have b6:(Be op==6)=false:=by simp;omega
  have wi:IntKind.i64.wrap (Be op+1)=Be op+1:=Cm AA
  have qF:WB s s6 b (l++(Dg (a.op,a.txt) (Gi op)++32::(Bz op++32::Dg (c.op,c.txt) (Be op+1)))):=by
   have:=Li w1 (Li v2 (Li v3 (Li v4 (Li v5 v6))));simpa using this
  cases h3:(Be op==3)
  all_goals
   rw[h3]at qj;simp only[if_true,if_false,Hg]at qj;rw[qj]at q2;simp only[go_sem];refine Ab qc AB ?_;simp only[go_sem,Int.reduceBEq,b1,b3,b7,b6,h3];refine Ab qm AB ?_;simp only[go_sem];refine Ca q2 ?_;simp only[go_sem];refine Ca q3 ?_;simp only[go_sem,m3];refine Ca q4 ?_;simp only[go_sem];refine Ca q5 ?_;simp only[go_sem];refine Af AD ?_;simp only[go_sem,k5];refine Bf qn AB ?_;simp only[go_sem,m5,wi];refine Abb q6 (by repeat (first | exact trivial | refine⟨.inl AK,?_⟩ | refine⟨by rfl,?_⟩ | refine⟨.inr ⟨by rfl,by rfl⟩,?_⟩)) (by repeat (first | exact trivial | refine⟨.inl AK,?_⟩ | refine⟨by rfl,?_⟩ | refine⟨.inr ⟨by rfl,by rfl⟩,?_⟩)) ?_;simp only[go_sem];exact⟨rfl,qF⟩
