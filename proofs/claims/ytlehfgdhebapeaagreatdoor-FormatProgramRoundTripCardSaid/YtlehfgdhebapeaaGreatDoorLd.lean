/- Plain: scanning the texts of expressions. -/
import Derived.Test.YtlehfgdhebapeaaGreatDoorLc
set_option linter.all false
namespace Go.Proofs.YtlehfgdhebapeaaGreatDoor.KM
open Go
theorem drop_le(p:UInt8→Bool):∀ l:List UInt8,(l.dropWhile p).length≤l.length
 | []=>Nat.le_refl _
 | c::r=>by
  rw[List.dropWhile_cons]
  split
  ·exact Nat.le_succ_of_le (drop_le p r)
  ·exact Nat.le_refl _
theorem sign_le{c:UInt8}{r:List UInt8}(h:signE (c::r)≠0):1≤signE (c::r)∧signE (c::r)≤(c::r).length:=by
 unfold signE at h ⊢
 split
 ·rename_i h1
  simp only[Bool.and_eq_true,decide_eq_true_eq]at h1
  exact⟨by omega,h1.1⟩
 ·simp only[List.length_cons]
  split
  ·omega
  ·rename_i h1 h2
   rw[if_neg h1]at h
   simp only[if_neg h2]at h
   exact absurd rfl h
theorem first_some{c:UInt8}{r:List UInt8}{k:Int}{w:List UInt8}(h:firstE (c::r)=some (k,w)):1≤w.length∧∃ q,c::r=w++q:=by
 unfold firstE at h
 simp only at h
 split at h
 ·split at h
  ·cases h
  ·cases h
   exact⟨by simp[wrdE],r.dropWhile innB,by simp[wrdE,List.takeWhile_append_dropWhile]⟩
 ·split at h
  ·split at h
   ·cases h
   ·split at h
    ·cases h
     exact⟨by simp[digsE],r.dropWhile digB,by simp[digsE,List.takeWhile_append_dropWhile]⟩
    ·cases h
  ·split at h
   ·cases h
   ·rename_i hs
    have:=sign_le hs
    cases h
    exact⟨by rw[List.length_take];omega,(c::r).drop (signE (c::r)),(List.take_append_drop _ _).symm⟩
theorem scan_any:∀ (n m:Nat) (ln:Int) (l:List UInt8),l.length≤n→l.length≤m→scanE n ln l=scanE m ln l
 | n,m,ln,[],_,_=>by cases n<;>cases m<;>rfl
 | 0,_,_,_::_,h,_=>by simp at h
 | _+1,0,_,_::_,_,h=>by simp at h
 | n+1,m+1,ln,c::r,h1,h2=>by
  rw[List.length_cons]at h1 h2
  unfold scanE
  by_cases e1:c=10
  ·rw[if_pos e1,if_pos e1];exact scan_any n m _ r (by omega) (by omega)
  rw[if_neg e1,if_neg e1]
  by_cases e2:c=32∨c=9∨c=13
  ·rw[if_pos e2,if_pos e2];exact scan_any n m _ r (by omega) (by omega)
  rw[if_neg e2,if_neg e2]
  by_cases e3:c=47∧r.head?=some 47
  ·rw[if_pos e3,if_pos e3]
   have hd:((c::r).dropWhile (· != 10)).length≤r.length:=by
    rw[List.dropWhile_cons,if_pos (by simp[e1])]
    exact drop_le _ r
   exact scan_any n m _ _ (by omega) (by omega)
  rw[if_neg e3,if_neg e3]
  cases hf:firstE (c::r) with
  | none=>rfl
  | some p=>
   obtain⟨k,w⟩:=p
   have hw:=(first_some hf).1
   simp only
   rw[scan_any n m ln _ (by rw[List.length_drop,List.length_cons];omega) (by rw[List.length_drop,List.length_cons];omega)]
def kts(o:Option (List Tk)):Option (List Kt):=o.map fun l=>l.map Tk.kt
theorem scan_line:∀ (n:Nat) (ln ln':Int) (l:List UInt8),kts (scanE n ln l)=kts (scanE n ln' l)
 | n,ln,ln',[]=>by cases n<;>rfl
 | 0,_,_,_::_=>rfl
 | n+1,ln,ln',c::r=>by
  unfold scanE
  by_cases e1:c=10
  ·rw[if_pos e1,if_pos e1];exact scan_line n _ _ r
  rw[if_neg e1,if_neg e1]
  by_cases e2:c=32∨c=9∨c=13
  ·rw[if_pos e2,if_pos e2];exact scan_line n _ _ r
  rw[if_neg e2,if_neg e2]
  by_cases e3:c=47∧r.head?=some 47
  ·rw[if_pos e3,if_pos e3];exact scan_line n _ _ _
  rw[if_neg e3,if_neg e3]
  cases hf:firstE (c::r) with
  | none=>rfl
  | some p=>
   obtain⟨k,w⟩:=p
   simp only
   have:=scan_line n ln ln' ((c::r).drop w.length)
   unfold kts at this ⊢
   simp only[Option.map_map]at this ⊢
   revert this
   cases scanE n ln ((c::r).drop w.length)<;>cases scanE n ln' ((c::r).drop w.length)<;>intro this
   ·rfl
   ·cases this
   ·cases this
   ·simp only[Option.map_some,Option.some.injEq]at this ⊢
    simp only[Function.comp_apply,List.map_cons,this]
    rfl
def scanK(l:List UInt8):Option (List Kt):=kts (scanE l.length 1 l)
theorem scanK_of{n:Nat}{ln:Int}{l:List UInt8}(h:l.length≤n):kts (scanE n ln l)=scanK l:=by
 unfold scanK
 rw[scan_any n l.length ln l h (Nat.le_refl _)]
 exact scan_line _ _ _ _
theorem sk_nil:scanK []=some []:=rfl
theorem sk_nl(r:List UInt8):scanK (10::r)=scanK r:=by
 unfold scanK
 rw[List.length_cons,scanE,if_pos rfl]
 exact scanK_of (Nat.le_refl _)
theorem sk_sp(r:List UInt8):scanK (32::r)=scanK r:=by
 unfold scanK
 rw[List.length_cons,scanE,if_neg (by decide),if_pos (.inl rfl)]
theorem sk_ind(n:Nat)(r:List UInt8):scanK (List.replicate n 32++r)=scanK r:=by
 induction n with
 | zero=>rfl
 | succ n ih=>rw[List.replicate_succ,List.cons_append,sk_sp,ih]
def cons(ks:List Kt)(o:Option (List Kt)):Option (List Kt):=o.map fun l=>ks++l
theorem cons_cons(a b:List Kt)(o:Option (List Kt)):cons a (cons b o)=cons (a++b) o:=by cases o<;>simp[cons]
theorem cons_nil(o:Option (List Kt)):cons [] o=o:=by cases o<;>rfl
theorem sk_tok{c:UInt8}{r w q:List UInt8}{k:Int}(he:c::r=w++q)(hf:firstE (c::r)=some (k,w))(h1:c≠10∧c≠32∧c≠9∧c≠13)(h2:¬ (c=47∧r.head?=some 47)):scanK (c::r)=cons [(k,w)] (scanK q):=by
 have h3:¬ (c=32∨c=9∨c=13):=fun h=>by
  rcases h with h | h | h
  ·exact h1.2.1 h
  ·exact h1.2.2.1 h
  ·exact h1.2.2.2 h
 have e:kts (scanE (c::r).length 1 (c::r))=cons [(k,w)] (kts (scanE r.length 1 q)):=by
  rw[List.length_cons,scanE,if_neg h1.1,if_neg h3,if_neg h2,hf]
  simp only
  rw[he,List.drop_left]
  cases scanE r.length 1 q<;>rfl
 unfold scanK at e ⊢
 rw[e]
 congr 1
 refine scanK_of ?_
 have hw:=(first_some hf).1
 have:=congrArg List.length he
 rw[List.length_append,List.length_cons]at this
 omega
theorem first_def(c:UInt8)(r:List UInt8):firstE (c::r)=if letB c then(if 12<(wrdE c r).length then none else some (if kwE (wrdE c r) then 3 else 1,wrdE c r))
  else if digB c then(if glued (r.dropWhile digB) then none else if numOk (digsE c r) then some (2,digsE c r) else none)
  else if signE (c::r)=0 then none else some (4,(c::r).take (signE (c::r))):=rfl
def clean(r:List UInt8):Prop:=∀ c∈r.head?,innB c=false
theorem clean_c{c:UInt8}(r:List UInt8)(h:innB c=false):clean (c::r):=fun d hd=>by cases hd;exact h
theorem take_clean{p:UInt8→Bool}:∀ (cs r:List UInt8),(∀ c∈cs,p c=true)→(∀ c∈r.head?,p c=false)→(cs++r).takeWhile p=cs∧(cs++r).dropWhile p=r
 | [],[],_,_=>⟨rfl,rfl⟩
 | [],c::r,_,h=>by
  have:=h c rfl
  simp[List.takeWhile_cons,List.dropWhile_cons,this]
 | c::cs,r,h1,h2=>by
  have:=take_clean cs r (fun d hd=>h1 d (List.mem_cons_of_mem _ hd)) h2
  simp[List.takeWhile_cons,List.dropWhile_cons,h1 c List.mem_cons_self,this]
theorem let_facts:((List.range 256).all fun n=>!letN n||(decide (n≠10)&&(decide (n≠32)&&(decide (n≠9)&&(decide (n≠13)&&(decide (n≠47)&&(decide (n≠61)&&innN n)))))))=true:=by decide +kernel
theorem dig_facts:((List.range 256).all fun n=>!digN n||(decide (n≠10)&&(decide (n≠32)&&(decide (n≠9)&&(decide (n≠13)&&(decide (n≠47)&&(decide (n≠61)&&(!letN n&&innN n))))))))=true:=by decide +kernel
theorem u8_ne{c:UInt8}{n:Nat}(hn:n<256)(h:c.toNat≠n):c≠UInt8.ofNat n:=by
 intro e
 subst e
 exact h (by simp[UInt8.toNat_ofNat,Nat.mod_eq_of_lt hn])
theorem letB_ne{c:UInt8}(h:letB c=true):(c≠10∧c≠32∧c≠9∧c≠13)∧c≠47∧c≠61∧innB c=true:=by
 have:=List.all_eq_true.1 let_facts c.toNat (List.mem_range.2 c.toNat_lt)
 unfold letB at h
 rw[h]at this
 simp only[Bool.not_true,Bool.false_or,Bool.and_eq_true,decide_eq_true_eq]at this
 obtain⟨a1,a2,a3,a4,a5,a6,a7⟩:=this
 exact⟨⟨u8_ne (n:=10) (by decide) a1,u8_ne (n:=32) (by decide) a2,u8_ne (n:=9) (by decide) a3,u8_ne (n:=13) (by decide) a4⟩,u8_ne (n:=47) (by decide) a5,u8_ne (n:=61) (by decide) a6,a7⟩
theorem digB_ne{c:UInt8}(h:digB c=true):(c≠10∧c≠32∧c≠9∧c≠13)∧c≠47∧c≠61∧letB c=false∧innB c=true:=by
 have:=List.all_eq_true.1 dig_facts c.toNat (List.mem_range.2 c.toNat_lt)
 unfold digB at h
 rw[h]at this
 simp only[Bool.not_true,Bool.false_or,Bool.and_eq_true,decide_eq_true_eq,Bool.not_eq_true']at this
 obtain⟨a1,a2,a3,a4,a5,a6,a7,a8⟩:=this
 exact⟨⟨u8_ne (n:=10) (by decide) a1,u8_ne (n:=32) (by decide) a2,u8_ne (n:=9) (by decide) a3,u8_ne (n:=13) (by decide) a4⟩,u8_ne (n:=47) (by decide) a5,u8_ne (n:=61) (by decide) a6,a7,a8⟩
theorem sk_word{c:UInt8}{cs r:List UInt8}(h1:letB c=true)(h2:∀ d∈cs,innB d=true)(h3:(c::cs).length≤12)(hr:clean r):scanK ((c::cs)++r)=cons [(if kwE (c::cs) then 3 else 1,c::cs)] (scanK r):=by
 obtain⟨a1,a2,-⟩:=letB_ne h1
 have ht:=(take_clean (p:=innB) cs r h2 hr).1
 refine sk_tok (q:=r) rfl ?_ a1 fun h=>a2 h.1
 show firstE (c::(cs++r))=_
 have hn:¬ 12<(c::cs).length:=by omega
 rw[first_def,h1,if_pos rfl]
 simp only[wrdE,ht]
 rw[if_neg hn]
theorem nm_parts{l:List UInt8}(h:isNameE l=true):∃ c cs,l=c::cs∧letB c=true∧(∀ d∈cs,innB d=true)∧(c::cs).length≤12∧kwE l=false:=by
 unfold isNameE at h
 simp only[Bool.and_eq_true,decide_eq_true_eq,Bool.not_eq_true',List.all_eq_true,List.mem_range]at h
 obtain⟨h1,h2,h3,h4⟩:=h
 cases l with
 | nil=>simp at h1
 | cons c cs=>
  refine⟨c,cs,rfl,?_,fun d hd=>?_,h2,h3⟩
  ·have:=h4 0 (by simp)
   unfold nmC at this
   simpa[letB] using this
  ·obtain⟨i,hi,rfl⟩:=List.mem_iff_getElem.1 hd
   have:=h4 (i+1) (by simp;omega)
   unfold nmC at this
   simp only[List.getD_cons_succ]at this
   rw[List.getD_eq_getElem?_getD,List.getElem?_eq_getElem hi]at this
   simp only[Option.getD_some]at this
   unfold innB innN
   simp only[Bool.or_eq_true,Bool.and_eq_true]at this ⊢
   rcases this with h | ⟨-,h | h⟩
   ·exact .inl h
   ·exact .inr (.inr h)
   ·exact .inr (.inl h)
theorem sk_name{nm r:List UInt8}(h:isNameE nm=true)(hr:clean r):scanK (nm++r)=cons [(1,nm)] (scanK r):=by
 obtain⟨c,cs,rfl,h1,h2,h3,h4⟩:=nm_parts h
 rw[sk_word h1 h2 h3 hr,h4]
 rfl
def DigRT:Prop:=∀ n:Int,0≤n∧n≤9223372036854775807→(∃ c cs,itoaE n=c::cs∧digB c=true∧∀ d∈cs,digB d=true)∧numOk (itoaE n)=true
theorem glued_clean{r:List UInt8}(h:clean r):glued r=false:=by
 cases r with
 | nil=>rfl
 | cons c r=>
  have:=h c rfl
  unfold innB innN at this
  simp only[Bool.or_eq_false_iff]at this
  unfold glued letB
  simp only[Bool.or_eq_false_iff,beq_eq_false_iff_ne,ne_eq]
  refine⟨this.1,fun e=>?_⟩
  subst e
  have:=this.2.2
  simp at this
theorem sk_num(hd:DigRT){n:Int}(hn:0≤n∧n≤9223372036854775807){r:List UInt8}(hr:clean r):scanK (itoaE n++r)=cons [(2,itoaE n)] (scanK r):=by
 obtain⟨⟨c,cs,e,h1,h2⟩,h3⟩:=hd n hn
 rw[e]at h3 ⊢
 obtain⟨a1,a2,-,a4,-⟩:=digB_ne h1
 have ht:=take_clean (p:=digB) cs r h2 fun c hc=>by
  have:=hr c hc
  unfold innB innN at this
  simp only[Bool.or_eq_false_iff]at this
  exact this.2.1
 refine sk_tok (q:=r) rfl ?_ a1 fun h=>a2 h.1
 show firstE (c::(cs++r))=_
 rw[first_def,a4,if_neg (by simp),h1,if_pos rfl,ht.2,glued_clean hr,if_neg (by simp)]
 simp only[digsE,ht.1]
 rw[h3,if_pos rfl]
def soloS:List UInt8:=[43,45,42,37,40,41,91,93,123,125,44,59]
theorem sk_solo{c:UInt8}(h:c∈soloS)(r:List UInt8):scanK (c::r)=cons [(4,[c])] (scanK r):=by
 refine sk_tok (q:=r) rfl ?_ ?_ ?_
 ·have hs:signE (c::r)=1:=by
   unfold signE
   have h0:(twoS.elem ((c::r).take 2))=false:=by
    cases r with
    | nil=>
     simp only[soloS,List.mem_cons,List.not_mem_nil,or_false]at h
     rcases h with rfl | rfl | rfl | rfl | rfl | rfl | rfl | rfl | rfl | rfl | rfl | rfl<;>rfl
    | cons d r=>
     simp only[List.take_succ_cons,List.take_zero,twoS]
     simp only[soloS,List.mem_cons,List.not_mem_nil,or_false]at h
     rcases h with rfl | rfl | rfl | rfl | rfl | rfl | rfl | rfl | rfl | rfl | rfl | rfl<;>simp
   rw[h0,Bool.and_false]
   simp only[soloS,List.mem_cons,List.not_mem_nil,or_false]at h
   rcases h with rfl | rfl | rfl | rfl | rfl | rfl | rfl | rfl | rfl | rfl | rfl | rfl<;>rfl
  have hl:letB c=false∧digB c=false:=by
   simp only[soloS,List.mem_cons,List.not_mem_nil,or_false]at h
   rcases h with rfl | rfl | rfl | rfl | rfl | rfl | rfl | rfl | rfl | rfl | rfl | rfl<;>exact⟨rfl,rfl⟩
  rw[first_def,hl.1,hl.2,hs]
  rfl
 ·simp only[soloS,List.mem_cons,List.not_mem_nil,or_false]at h
  rcases h with rfl | rfl | rfl | rfl | rfl | rfl | rfl | rfl | rfl | rfl | rfl | rfl<;>decide
 ·rintro⟨rfl,-⟩
  revert h
  decide
theorem sk_op{op:Int}(h:6≤op∧op≤18)(r:List UInt8):scanK (sgE op++32::r)=cons [(4,sgE op)] (scanK (32::r)):=by
 have hw:op=6∨op=7∨op=8∨op=9∨op=10∨op=11∨op=12∨op=13∨op=14∨op=15∨op=16∨op=17∨op=18:=by omega
 rcases hw with rfl | rfl | rfl | rfl | rfl | rfl | rfl | rfl | rfl | rfl | rfl | rfl | rfl<;>exact sk_tok (q:=32::r) rfl rfl (by decide) (by simp)
theorem sk_assign(r:List UInt8):scanK (61::32::r)=cons [(4,[61])] (scanK (32::r)):=sk_tok (q:=32::r) rfl rfl (by decide) (by simp)
theorem sk_not{c:UInt8}{r:List UInt8}(h:c≠61):scanK (33::c::r)=cons [(4,[33])] (scanK (c::r)):=by
 refine sk_tok (q:=c::r) rfl ?_ (by decide) (by simp)
 have hs:signE (33::c::r)=1:=by
  unfold signE
  have h0:(twoS.elem ((33::c::r).take 2))=false:=by
   simp only[List.take_succ_cons,List.take_zero,twoS]
   simp[h]
  rw[h0,Bool.and_false]
  rfl
 rw[first_def,hs]
 rfl
def headOk(l:List UInt8):Prop:=∃ c cs,l=c::cs∧c≠61
theorem head_app{l:List UInt8}(h:headOk l)(r:List UInt8):headOk (l++r):=by
 obtain⟨c,cs,rfl,hc⟩:=h
 exact⟨c,cs++r,rfl,hc⟩
theorem sk_un{op:Int}(h:op=4∨op=5){l:List UInt8}(hl:headOk l):scanK (sgE op++l)=cons [(4,sgE op)] (scanK l):=by
 obtain⟨c,cs,rfl,hc⟩:=hl
 rcases h with rfl | rfl
 ·exact sk_solo (by decide) _
 ·exact sk_not hc
def Tx(l:List UInt8)(ks:List Kt):Prop:=∀ r,clean r→scanK (l++r)=cons ks (scanK r)
theorem head_put{o:Int × List UInt8}{lvl:Int}(h:headOk o.2):headOk (putE o lvl):=by
 unfold putE
 split
 ·exact⟨40,_,rfl,by decide⟩
 ·exact h
theorem tx_put{op:Int}{l:List UInt8}{ks:List Kt}(h:Tx l ks)(lvl:Int):Tx (putE (op,l) lvl) (putK (op,ks) lvl):=by
 intro r hr
 unfold putE putK
 simp only
 split
 ·simp only[List.cons_append,List.append_assoc,List.nil_append]
  rw[sk_solo (by decide),h _ (clean_c _ (by decide)),sk_solo (by decide)]
  simp only[cons_cons,List.cons_append,List.nil_append]
 ·exact h r hr
theorem tx_bin{op:Int}(ho:6≤op∧op≤18){l1 l2:List UInt8}{k1 k2:List Kt}(h1:Tx l1 k1)(h2:Tx l2 k2):Tx (l1++32::(sgE op++32::l2)) (k1++(4,sgE op)::k2):=by
 intro r hr
 simp only[List.append_assoc,List.cons_append]
 rw[h1 _ (clean_c _ (by decide)),sk_sp,sk_op ho,sk_sp,h2 r hr]
 simp only[cons_cons,List.cons_append,List.nil_append]
theorem tx_un{op:Int}(ho:op=4∨op=5){l:List UInt8}{k:List Kt}(h:Tx l k)(hl:headOk l):Tx (sgE op++l) ((4,sgE op)::k):=by
 intro r hr
 rw[List.append_assoc,sk_un ho (head_app hl r),h r hr]
 simp only[cons_cons,List.cons_append,List.nil_append]
theorem tx_idx{nm l:List UInt8}{k:List Kt}(hn:isNameE nm=true)(h:Tx l k):Tx (nm++91::(l++[93])) ((1,nm)::(4,[91])::(k++[(4,[93])])):=by
 intro r hr
 simp only[List.append_assoc,List.cons_append,List.nil_append]
 rw[sk_name hn (clean_c _ (by decide)),sk_solo (by decide),h _ (clean_c _ (by decide)),sk_solo (by decide)]
 simp only[cons_cons,List.cons_append,List.nil_append]
theorem txt_bin{op:Int}{z:Bool}{t:Nat}{a b:Xp}(h:6≤op∧op≤18):Xp.txt ⟨op,0,[],z,t,[a,b]⟩=putE (a.op,a.txt) (leftE op)++32::(sgE op++32::putE (b.op,b.txt) (lvE op+1)):=by
 simp only[Xp.txt,Xp.txts,combE]
 rw[if_neg (by omega),if_neg (by omega)]
theorem txt_un{op:Int}{z:Bool}{t:Nat}{a:Xp}(h:op=4∨op=5):Xp.txt ⟨op,0,[],z,t,[a]⟩=sgE op++putE (a.op,a.txt) 6∧Xp.toks ⟨op,0,[],z,t,[a]⟩=(4,sgE op)::putK (a.op,a.toks) 6:=by
 simp only[Xp.txt,Xp.txts,combE,Xp.toks,Xp.tokss,combK]
 rw[if_neg (by omega),if_neg (by omega),if_neg (by omega),if_neg (by omega),if_neg (by omega),if_neg (by omega)]
 exact⟨rfl,rfl⟩
theorem nm_head{nm:List UInt8}(h:isNameE nm=true):headOk nm:=by
 obtain⟨c,cs,rfl,h1,-⟩:=nm_parts h
 exact⟨c,cs,rfl,(letB_ne h1).2.2.1⟩
theorem txt_tx(hd:DigRT){x:Xp}(h:ShE x):Tx x.txt x.toks∧headOk x.txt:=by
 induction h with
 | @num n z t hn=>
  have e1:Xp.txt ⟨1,n,[],z,t,[]⟩=itoaE n:=by simp[Xp.txt,combE]
  have e2:Xp.toks ⟨1,n,[],z,t,[]⟩=[(2,itoaE n)]:=by simp[Xp.toks,combK]
  rw[e1,e2]
  obtain⟨⟨c,cs,e,h1,h2⟩,-⟩:=hd n hn
  exact⟨fun r hr=>sk_num hd hn hr,c,cs,e,(digB_ne h1).2.2.1⟩
 | @name nm z t hn=>
  have e1:Xp.txt ⟨2,0,nm,z,t,[]⟩=nm:=by simp[Xp.txt,combE]
  have e2:Xp.toks ⟨2,0,nm,z,t,[]⟩=[(1,nm)]:=by simp[Xp.toks,combK]
  rw[e1,e2]
  exact⟨fun r hr=>sk_name hn hr,nm_head hn⟩
 | @idx nm z t a hn ha ih=>
  have e1:Xp.txt ⟨3,0,nm,z,t,[a]⟩=nm++91::(a.txt++[93]):=by simp[Xp.txt,Xp.txts,combE]
  have e2:Xp.toks ⟨3,0,nm,z,t,[a]⟩=(1,nm)::(4,[91])::(a.toks++[(4,[93])]):=by simp[Xp.toks,Xp.tokss,combK]
  rw[e1,e2]
  exact⟨tx_idx hn ih.1,head_app (nm_head hn) _⟩
 | @un op z t a hop ha ih=>
  obtain⟨e1,e2⟩:=txt_un (z:=z) (t:=t) (a:=a) hop
  rw[e1,e2]
  have hh:=head_put (o:=(a.op,a.txt)) (lvl:=6) ih.2
  refine⟨tx_un hop (tx_put ih.1 6) hh,?_⟩
  rcases hop with rfl | rfl
  ·exact⟨45,_,rfl,by decide⟩
  ·exact⟨33,_,rfl,by decide⟩
 | @bin op z t a b hop ha hb iha ihb=>
  rw[txt_bin hop,toks_bin hop]
  exact⟨tx_bin hop (tx_put iha.1 _) (tx_put ihb.1 _),head_app (head_put iha.2) _⟩
end Go.Proofs.YtlehfgdhebapeaaGreatDoor.KM
