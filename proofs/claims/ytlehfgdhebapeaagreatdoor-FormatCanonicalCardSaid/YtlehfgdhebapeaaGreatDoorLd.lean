/- Plain: scanning the texts of expressions. -/
import Derived.Test.YtlehfgdhebapeaaGreatDoorLc
set_option linter.all false
namespace Go.Proofs.YtlehfgdhebapeaaGreatDoor.KM
open Go
theorem T2(p:UInt8->Bool):∀ l:List UInt8,(l.dropWhile p).length<=l.length
 | []=>Af _
 | c::r=>by
  rw[Pz]
  split
  ·exact Nat.le_succ_of_le (T2 p r)
  ·exact Af _
theorem Ah6{c:UInt8}{r:List UInt8}(h:F1 (c::r)≠0):1<=F1 (c::r)/\F1 (c::r)<=(c::r).length:=by
 unfold F1 at h ⊢
 split
 ·rename_i h1
  simp only[Ad,decide_eq_true_eq]at h1
  exact⟨by omega,h1.1⟩
 ·simp only[Ag]
  split
  ·omega
  ·rename_i h1 h2
   rw[if_neg h1]at h
   simp only[if_neg h2]at h
   exact absurd rfl h
theorem S1{c:UInt8}{r:List UInt8}{k:Int}{w:List UInt8}(h:G6 (c::r)=some (k,w)):1<=w.length/\∃ q,c::r=w++q:=by
 unfold G6 at h
 simp only at h
 split at h
 ·split at h
  ·cases h
  ·cases h
   exact⟨by simp[Dq],r.dropWhile Fx,by simp[Dq,List.takeWhile_append_dropWhile]⟩
 ·split at h
  ·split at h
   ·cases h
   ·split at h
    ·cases h
     exact⟨by simp[De],r.dropWhile C4,by simp[De,List.takeWhile_append_dropWhile]⟩
    ·cases h
  ·split at h
   ·cases h
   ·rename_i hs
    have:=Ah6 hs
    cases h
    exact⟨by rw[Vc];omega,(c::r).drop (F1 (c::r)),(Py _ _).symm⟩
theorem Qw:∀ (n m:Nat) (ln:Int) (l:List UInt8),l.length<=n->l.length<=m->B7 n ln l=B7 m ln l
 | n,m,ln,[],_,_=>by cases n<;>cases m<;>rfl
 | 0,_,_,_::_,h,_=>by simp at h
 | _+1,0,_,_::_,_,h=>by simp at h
 | n+1,m+1,ln,c::r,h1,h2=>by
  rw[Ag]at h1 h2
  unfold B7
  by_cases e1:c=10
  ·rw[if_pos e1,if_pos e1];exact Qw n m _ r (by omega) (by omega)
  rw[if_neg e1,if_neg e1]
  by_cases e2:c=32\/c=9\/c=13
  ·rw[if_pos e2,if_pos e2];exact Qw n m _ r (by omega) (by omega)
  rw[if_neg e2,if_neg e2]
  by_cases e3:c=47/\r.head?=some 47
  ·rw[if_pos e3,if_pos e3]
   have hd:((c::r).dropWhile (· != 10)).length<=r.length:=by
    rw[Pz,if_pos (by simp[e1])]
    exact T2 _ r
   exact Qw n m _ _ (by omega) (by omega)
  rw[if_neg e3,if_neg e3]
  cases hf:G6 (c::r) with
  | none=>rfl
  | some p=>
   obtain⟨k,w⟩:=p
   have hw:=(S1 hf).1
   simp only
   rw[Qw n m ln _ (by rw[D5,Ag];omega) (by rw[D5,Ag];omega)]
def Oj(o:Option (List Tk)):Option (List Kt):=o.map fun l=>l.map Tk.kt
theorem Ta:∀ (n:Nat) (ln ln':Int) (l:List UInt8),Oj (B7 n ln l)=Oj (B7 n ln' l)
 | n,ln,ln',[]=>by cases n<;>rfl
 | 0,_,_,_::_=>rfl
 | n+1,ln,ln',c::r=>by
  unfold B7
  by_cases e1:c=10
  ·rw[if_pos e1,if_pos e1];exact Ta n _ _ r
  rw[if_neg e1,if_neg e1]
  by_cases e2:c=32\/c=9\/c=13
  ·rw[if_pos e2,if_pos e2];exact Ta n _ _ r
  rw[if_neg e2,if_neg e2]
  by_cases e3:c=47/\r.head?=some 47
  ·rw[if_pos e3,if_pos e3];exact Ta n _ _ _
  rw[if_neg e3,if_neg e3]
  cases hf:G6 (c::r) with
  | none=>rfl
  | some p=>
   obtain⟨k,w⟩:=p
   simp only
   have:=Ta n ln ln' ((c::r).drop w.length)
   unfold Oj at this ⊢
   simp only[Option.map_map]at this ⊢
   revert this
   cases B7 n ln ((c::r).drop w.length)<;>cases B7 n ln' ((c::r).drop w.length)<;>intro this
   ·rfl
   ·cases this
   ·cases this
   ·simp only[G1,P7]at this ⊢
    simp only[Function.comp_apply,Ao,this]
    rfl
def Bi(l:List UInt8):Option (List Kt):=Oj (B7 l.length 1 l)
theorem Agn{n:Nat}{ln:Int}{l:List UInt8}(h:l.length<=n):Oj (B7 n ln l)=Bi l:=by
 unfold Bi
 rw[Qw n l.length ln l h (Af _)]
 exact Ta _ _ _ _
theorem Avr:Bi []=some []:=rfl
theorem N0(r:List UInt8):Bi (10::r)=Bi r:=by
 unfold Bi
 rw[Ag,B7,if_pos rfl]
 exact Agn (Af _)
theorem Dv(r:List UInt8):Bi (32::r)=Bi r:=by
 unfold Bi
 rw[Ag,B7,if_neg (by decide),if_pos (.inl rfl)]
theorem Avs(n:Nat)(r:List UInt8):Bi (List.replicate n 32++r)=Bi r:=by
 induction n with
 | zero=>rfl
 | succ n ih=>rw[Yr,Bg,Dv,ih]
def cons(ks:List Kt)(o:Option (List Kt)):Option (List Kt):=o.map fun l=>ks++l
theorem D8(a b:List Kt)(o:Option (List Kt)):cons a (cons b o)=cons (a++b) o:=by cases o<;>simp[cons]
theorem To(o:Option (List Kt)):cons [] o=o:=by cases o<;>rfl
theorem Rb{c:UInt8}{r w q:List UInt8}{k:Int}(he:c::r=w++q)(hf:G6 (c::r)=some (k,w))(h1:c≠10/\c≠32/\c≠9/\c≠13)(h2:¬ (c=47/\r.head?=some 47)):Bi (c::r)=cons [(k,w)] (Bi q):=by
 have h3:¬ (c=32\/c=9\/c=13):=fun h=>by
  rcases h with h | h | h
  ·exact h1.2.1 h
  ·exact h1.2.2.1 h
  ·exact h1.2.2.2 h
 have e:Oj (B7 (c::r).length 1 (c::r))=cons [(k,w)] (Oj (B7 r.length 1 q)):=by
  rw[Ag,B7,if_neg h1.1,if_neg h3,if_neg h2,hf]
  simp only
  rw[he,List.drop_left]
  cases B7 r.length 1 q<;>rfl
 unfold Bi at e ⊢
 rw[e]
 congr 1
 refine Agn ?_
 have hw:=(S1 hf).1
 have:=congrArg List.length he
 rw[Al,Ag]at this
 omega
theorem Kz(c:UInt8)(r:List UInt8):G6 (c::r)=if E7 c then(if 12<(Dq c r).length then none else some (if G0 (Dq c r) then 3 else 1,Dq c r))
  else if C4 c then(if Me (r.dropWhile C4) then none else if Le (De c r) then some (2,De c r) else none)
  else if F1 (c::r)=0 then none else some (4,(c::r).take (F1 (c::r))):=rfl
def Hq(r:List UInt8):Prop:=∀ c∈r.head?,Fx c=false
theorem H1{c:UInt8}(r:List UInt8)(h:Fx c=false):Hq (c::r):=fun d hd=>by cases hd;exact h
theorem Ze{p:UInt8->Bool}:∀ (cs r:List UInt8),(∀ c∈cs,p c=true)->(∀ c∈r.head?,p c=false)->(cs++r).takeWhile p=cs/\(cs++r).dropWhile p=r
 | [],[],_,_=>⟨rfl,rfl⟩
 | [],c::r,_,h=>by
  have:=h c rfl
  simp[P0,Pz,this]
 | c::cs,r,h1,h2=>by
  have:=Ze cs r (fun d hd=>h1 d (Cb _ hd)) h2
  simp[P0,Pz,h1 c Co,this]
theorem Amz:((List.range 256).all fun n=>!Po n||(decide (n≠10)&&(decide (n≠32)&&(decide (n≠9)&&(decide (n≠13)&&(decide (n≠47)&&(decide (n≠61)&&Oh n)))))))=true:=by decide +kernel
theorem Am0:((List.range 256).all fun n=>!Og n||(decide (n≠10)&&(decide (n≠32)&&(decide (n≠9)&&(decide (n≠13)&&(decide (n≠47)&&(decide (n≠61)&&(!Po n&&Oh n))))))))=true:=by decide +kernel
theorem I7{c:UInt8}{n:Nat}(hn:n<256)(h:c.toNat≠n):c≠UInt8.ofNat n:=by
 intro e
 subst e
 exact h (by simp[UInt8.toNat_ofNat,P8 hn])
theorem Aaw{c:UInt8}(h:E7 c=true):(c≠10/\c≠32/\c≠9/\c≠13)/\c≠47/\c≠61/\Fx c=true:=by
 have:=A5.1 Amz c.toNat (Ew.2 c.toNat_lt)
 unfold E7 at h
 rw[h]at this
 simp only[El,Sq,Ad,decide_eq_true_eq]at this
 obtain⟨a1,a2,a3,a4,a5,a6,a7⟩:=this
 exact⟨⟨I7 (n:=10) (by decide) a1,I7 (n:=32) (by decide) a2,I7 (n:=9) (by decide) a3,I7 (n:=13) (by decide) a4⟩,I7 (n:=47) (by decide) a5,I7 (n:=61) (by decide) a6,a7⟩
theorem Ah7{c:UInt8}(h:C4 c=true):(c≠10/\c≠32/\c≠9/\c≠13)/\c≠47/\c≠61/\E7 c=false/\Fx c=true:=by
 have:=A5.1 Am0 c.toNat (Ew.2 c.toNat_lt)
 unfold C4 at h
 rw[h]at this
 simp only[El,Sq,Ad,decide_eq_true_eq,Hk]at this
 obtain⟨a1,a2,a3,a4,a5,a6,a7,a8⟩:=this
 exact⟨⟨I7 (n:=10) (by decide) a1,I7 (n:=32) (by decide) a2,I7 (n:=9) (by decide) a3,I7 (n:=13) (by decide) a4⟩,I7 (n:=47) (by decide) a5,I7 (n:=61) (by decide) a6,a7,a8⟩
theorem Ah8{c:UInt8}{cs r:List UInt8}(h1:E7 c=true)(h2:∀ d∈cs,Fx d=true)(h3:(c::cs).length<=12)(hr:Hq r):Bi ((c::cs)++r)=cons [(if G0 (c::cs) then 3 else 1,c::cs)] (Bi r):=by
 obtain⟨a1,a2,-⟩:=Aaw h1
 have ht:=(Ze (p:=Fx) cs r h2 hr).1
 refine Rb (q:=r) rfl ?_ a1 fun h=>a2 h.1
 show G6 (c::(cs++r))=_
 have hn:¬ 12<(c::cs).length:=by omega
 rw[Kz,h1,if_pos rfl]
 simp only[Dq,ht]
 rw[if_neg hn]
theorem Aaa{l:List UInt8}(h:Cx l=true):∃ c cs,l=c::cs/\E7 c=true/\(∀ d∈cs,Fx d=true)/\(c::cs).length<=12/\G0 l=false:=by
 unfold Cx at h
 simp only[Ad,decide_eq_true_eq,Hk,A5,Ew]at h
 obtain⟨h1,h2,h3,h4⟩:=h
 cases l with
 | nil=>simp at h1
 | cons c cs=>
  refine⟨c,cs,rfl,?_,fun d hd=>?_,h2,h3⟩
  ·have:=h4 0 (by simp)
   unfold Sa at this
   simpa[E7] using this
  ·obtain⟨i,hi,rfl⟩:=List.mem_iff_getElem.1 hd
   have:=h4 (i+1) (by simp;omega)
   unfold Sa at this
   simp only[List.getD_cons_succ]at this
   rw[Am,Az hi]at this
   simp only[Yw]at this
   unfold Fx Oh
   simp only[Hu,Ad]at this ⊢
   rcases this with h | ⟨-,h | h⟩
   ·exact .inl h
   ·exact .inr (.inr h)
   ·exact .inr (.inl h)
theorem Fz{nm r:List UInt8}(h:Cx nm=true)(hr:Hq r):Bi (nm++r)=cons [(1,nm)] (Bi r):=by
 obtain⟨c,cs,rfl,h1,h2,h3,h4⟩:=Aaa h
 rw[Ah8 h1 h2 h3 hr,h4]
 rfl
def Lh:Prop:=∀ n:Int,0<=n/\n<=9223372036854775807->(∃ c cs,A4 n=c::cs/\C4 c=true/\∀ d∈cs,C4 d=true)/\Le (A4 n)=true
theorem Alg{r:List UInt8}(h:Hq r):Me r=false:=by
 cases r with
 | nil=>rfl
 | cons c r=>
  have:=h c rfl
  unfold Fx Oh at this
  simp only[Yq]at this
  unfold Me E7
  simp only[Yq,beq_eq_false_iff_ne,ne_eq]
  refine⟨this.1,fun e=>?_⟩
  subst e
  have:=this.2.2
  simp at this
theorem Xm(hd:Lh){n:Int}(hn:0<=n/\n<=9223372036854775807){r:List UInt8}(hr:Hq r):Bi (A4 n++r)=cons [(2,A4 n)] (Bi r):=by
 obtain⟨⟨c,cs,e,h1,h2⟩,h3⟩:=hd n hn
 rw[e]at h3 ⊢
 obtain⟨a1,a2,-,a4,-⟩:=Ah7 h1
 have ht:=Ze (p:=C4) cs r h2 fun c hc=>by
  have:=hr c hc
  unfold Fx Oh at this
  simp only[Yq]at this
  exact this.2.1
 refine Rb (q:=r) rfl ?_ a1 fun h=>a2 h.1
 show G6 (c::(cs++r))=_
 rw[Kz,a4,if_neg (by simp),h1,if_pos rfl,ht.2,Alg hr,if_neg (by simp)]
 simp only[De,ht.1]
 rw[h3,if_pos rfl]
def Ro:List UInt8:=[43,45,42,37,40,41,91,93,123,125,44,59]
theorem Fc{c:UInt8}(h:c∈Ro)(r:List UInt8):Bi (c::r)=cons [(4,[c])] (Bi r):=by
 refine Rb (q:=r) rfl ?_ ?_ ?_
 ·have hs:F1 (c::r)=1:=by
   unfold F1
   have h0:(twoS.elem ((c::r).take 2))=false:=by
    cases r with
    | nil=>
     simp only[Ro,Bm,Jf,or_false]at h
     rcases h with rfl | rfl | rfl | rfl | rfl | rfl | rfl | rfl | rfl | rfl | rfl | rfl<;>rfl
    | cons d r=>
     simp only[Om,Vh,twoS]
     simp only[Ro,Bm,Jf,or_false]at h
     rcases h with rfl | rfl | rfl | rfl | rfl | rfl | rfl | rfl | rfl | rfl | rfl | rfl<;>simp
   rw[h0,Y0]
   simp only[Ro,Bm,Jf,or_false]at h
   rcases h with rfl | rfl | rfl | rfl | rfl | rfl | rfl | rfl | rfl | rfl | rfl | rfl<;>rfl
  have hl:E7 c=false/\C4 c=false:=by
   simp only[Ro,Bm,Jf,or_false]at h
   rcases h with rfl | rfl | rfl | rfl | rfl | rfl | rfl | rfl | rfl | rfl | rfl | rfl<;>exact⟨rfl,rfl⟩
  rw[Kz,hl.1,hl.2,hs]
  rfl
 ·simp only[Ro,Bm,Jf,or_false]at h
  rcases h with rfl | rfl | rfl | rfl | rfl | rfl | rfl | rfl | rfl | rfl | rfl | rfl<;>decide
 ·rintro⟨rfl,-⟩
  revert h
  decide
theorem Ay6{op:Int}(h:6<=op/\op<=18)(r:List UInt8):Bi (Bh op++32::r)=cons [(4,Bh op)] (Bi (32::r)):=by
 have hw:op=6\/op=7\/op=8\/op=9\/op=10\/op=11\/op=12\/op=13\/op=14\/op=15\/op=16\/op=17\/op=18:=by omega
 rcases hw with rfl | rfl | rfl | rfl | rfl | rfl | rfl | rfl | rfl | rfl | rfl | rfl | rfl<;>exact Rb (q:=32::r) rfl rfl (by decide) (by simp)
theorem V5(r:List UInt8):Bi (61::32::r)=cons [(4,[61])] (Bi (32::r)):=Rb (q:=32::r) rfl rfl (by decide) (by simp)
theorem Avt{c:UInt8}{r:List UInt8}(h:c≠61):Bi (33::c::r)=cons [(4,[33])] (Bi (c::r)):=by
 refine Rb (q:=c::r) rfl ?_ (by decide) (by simp)
 have hs:F1 (33::c::r)=1:=by
  unfold F1
  have h0:(twoS.elem ((33::c::r).take 2))=false:=by
   simp only[Om,Vh,twoS]
   simp[h]
  rw[h0,Y0]
  rfl
 rw[Kz,hs]
 rfl
def Nh(l:List UInt8):Prop:=∃ c cs,l=c::cs/\c≠61
theorem Aab{l:List UInt8}(h:Nh l)(r:List UInt8):Nh (l++r):=by
 obtain⟨c,cs,rfl,hc⟩:=h
 exact⟨c,cs++r,rfl,hc⟩
theorem Ay7{op:Int}(h:op=4\/op=5){l:List UInt8}(hl:Nh l):Bi (Bh op++l)=cons [(4,Bh op)] (Bi l):=by
 obtain⟨c,cs,rfl,hc⟩:=hl
 rcases h with rfl | rfl
 ·exact Fc (by decide) _
 ·exact Avt hc
def Tx(l:List UInt8)(ks:List Kt):Prop:=∀ r,Hq r->Bi (l++r)=cons ks (Bi r)
theorem Ago{o:Int × List UInt8}{lvl:Int}(h:Nh o.2):Nh (C3 o lvl):=by
 unfold C3
 split
 ·exact⟨40,_,rfl,by decide⟩
 ·exact h
theorem Abl{op:Int}{l:List UInt8}{ks:List Kt}(h:Tx l ks)(lvl:Int):Tx (C3 (op,l) lvl) (Gk (op,ks) lvl):=by
 intro r hr
 unfold C3 Gk
 simp only
 split
 ·simp only[Bg,Bl,Bf]
  rw[Fc (by decide),h _ (H1 _ (by decide)),Fc (by decide)]
  simp only[D8,Bg,Bf]
 ·exact h r hr
theorem Avu{op:Int}(ho:6<=op/\op<=18){l1 l2:List UInt8}{k1 k2:List Kt}(h1:Tx l1 k1)(h2:Tx l2 k2):Tx (l1++32::(Bh op++32::l2)) (k1++(4,Bh op)::k2):=by
 intro r hr
 simp only[Bl,Bg]
 rw[h1 _ (H1 _ (by decide)),Dv,Ay6 ho,Dv,h2 r hr]
 simp only[D8,Bg,Bf]
theorem Ay8{op:Int}(ho:op=4\/op=5){l:List UInt8}{k:List Kt}(h:Tx l k)(hl:Nh l):Tx (Bh op++l) ((4,Bh op)::k):=by
 intro r hr
 rw[Bl,Ay7 ho (Aab hl r),h r hr]
 simp only[D8,Bg,Bf]
theorem Avv{nm l:List UInt8}{k:List Kt}(hn:Cx nm=true)(h:Tx l k):Tx (nm++91::(l++[93])) ((1,nm)::(4,[91])::(k++[(4,[93])])):=by
 intro r hr
 simp only[Bl,Bg,Bf]
 rw[Fz hn (H1 _ (by decide)),Fc (by decide),h _ (H1 _ (by decide)),Fc (by decide)]
 simp only[D8,Bg,Bf]
theorem Ah9{op:Int}{z:Bool}{t:Nat}{a b:Xp}(h:6<=op/\op<=18):Xp.txt ⟨op,0,[],z,t,[a,b]⟩=C3 (a.op,a.txt) (Fe op)++32::(Bh op++32::C3 (b.op,b.txt) (As op+1)):=by
 simp only[Xp.txt,Xp.txts,Dk]
 rw[if_neg (by omega),if_neg (by omega)]
theorem Ajf{op:Int}{z:Bool}{t:Nat}{a:Xp}(h:op=4\/op=5):Xp.txt ⟨op,0,[],z,t,[a]⟩=Bh op++C3 (a.op,a.txt) 6/\Xp.toks ⟨op,0,[],z,t,[a]⟩=(4,Bh op)::Gk (a.op,a.toks) 6:=by
 simp only[Xp.txt,Xp.txts,Dk,Xp.toks,Xp.tokss,Lg]
 rw[if_neg (by omega),if_neg (by omega),if_neg (by omega),if_neg (by omega),if_neg (by omega),if_neg (by omega)]
 exact⟨rfl,rfl⟩
theorem Aia{nm:List UInt8}(h:Cx nm=true):Nh nm:=by
 obtain⟨c,cs,rfl,h1,-⟩:=Aaa h
 exact⟨c,cs,rfl,(Aaw h1).2.2.1⟩
theorem Xn(hd:Lh){x:Xp}(h:ShE x):Tx x.txt x.toks/\Nh x.txt:=by
 induction h with
 | @num n z t hn=>
  have e1:Xp.txt ⟨1,n,[],z,t,[]⟩=A4 n:=by simp[Xp.txt,Dk]
  have e2:Xp.toks ⟨1,n,[],z,t,[]⟩=[(2,A4 n)]:=by simp[Xp.toks,Lg]
  rw[e1,e2]
  obtain⟨⟨c,cs,e,h1,h2⟩,-⟩:=hd n hn
  exact⟨fun r hr=>Xm hd hn hr,c,cs,e,(Ah7 h1).2.2.1⟩
 | @name nm z t hn=>
  have e1:Xp.txt ⟨2,0,nm,z,t,[]⟩=nm:=by simp[Xp.txt,Dk]
  have e2:Xp.toks ⟨2,0,nm,z,t,[]⟩=[(1,nm)]:=by simp[Xp.toks,Lg]
  rw[e1,e2]
  exact⟨fun r hr=>Fz hn hr,Aia hn⟩
 | @idx nm z t a hn ha ih=>
  have e1:Xp.txt ⟨3,0,nm,z,t,[a]⟩=nm++91::(a.txt++[93]):=by simp[Xp.txt,Xp.txts,Dk]
  have e2:Xp.toks ⟨3,0,nm,z,t,[a]⟩=(1,nm)::(4,[91])::(a.toks++[(4,[93])]):=by simp[Xp.toks,Xp.tokss,Lg]
  rw[e1,e2]
  exact⟨Avv hn ih.1,Aab (Aia hn) _⟩
 | @un op z t a hop ha ih=>
  obtain⟨e1,e2⟩:=Ajf (z:=z) (t:=t) (a:=a) hop
  rw[e1,e2]
  have hh:=Ago (o:=(a.op,a.txt)) (lvl:=6) ih.2
  refine⟨Ay8 hop (Abl ih.1 6) hh,?_⟩
  rcases hop with rfl | rfl
  ·exact⟨45,_,rfl,by decide⟩
  ·exact⟨33,_,rfl,by decide⟩
 | @bin op z t a b hop ha hb iha ihb=>
  rw[Ah9 hop,Z7 hop]
  exact⟨Avu hop (Abl iha.1 _) (Abl ihb.1 _),Aab (Ago iha.2) _⟩
end Go.Proofs.YtlehfgdhebapeaaGreatDoor.KM
