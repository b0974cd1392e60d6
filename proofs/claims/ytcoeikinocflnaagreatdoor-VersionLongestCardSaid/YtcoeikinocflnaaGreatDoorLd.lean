/- Plain: scanning the texts of expressions. -/
import Derived.Test.YtcoeikinocflnaaGreatDoorLc
set_option linter.all false
namespace Go.Proofs.YtcoeikinocflnaaGreatDoor.KM
open Go
theorem Ty(p:UInt8->Bool):∀ l:List UInt8,(l.dropWhile p).length<=l.length
 | []=>Ah _
 | c::r=>by
  rw[Pw]
  split
  ·exact Nat.le_succ_of_le (Ty p r)
  ·exact Ah _
theorem Ait{c:UInt8}{r:List UInt8}(h:Ge (c::r)≠0):1<=Ge (c::r)/\Ge (c::r)<=(c::r).length:=by
 unfold Ge at h ⊢
 split
 ·rename_i h1
  simp only[Ae,decide_eq_true_eq]at h1
  exact⟨by omega,h1.1⟩
 ·simp only[Af]
  split
  ·omega
  ·rename_i h1 h2
   rw[if_neg h1]at h
   simp only[if_neg h2]at h
   exact absurd rfl h
theorem Ss{c:UInt8}{r:List UInt8}{k:Int}{w:List UInt8}(h:Gx (c::r)=some (k,w)):1<=w.length/\∃ q,c::r=w++q:=by
 unfold Gx at h
 simp only at h
 split at h
 ·split at h
  ·cases h
  ·cases h
   exact⟨by simp[Dk],r.dropWhile F6,by simp[Dk,List.takeWhile_append_dropWhile]⟩
 ·split at h
  ·split at h
   ·cases h
   ·split at h
    ·cases h
     exact⟨by simp[Dh],r.dropWhile C1,by simp[Dh,List.takeWhile_append_dropWhile]⟩
    ·cases h
  ·split at h
   ·cases h
   ·rename_i hs
    have:=Ait hs
    cases h
    exact⟨by rw[Gm];omega,(c::r).drop (Ge (c::r)),(Jh _ _).symm⟩
theorem Qw:∀ (n m:Nat) (ln:Int) (l:List UInt8),l.length<=n->l.length<=m->B1 n ln l=B1 m ln l
 | n,m,ln,[],_,_=>by cases n<;>cases m<;>rfl
 | 0,_,_,_::_,h,_=>by simp at h
 | _+1,0,_,_::_,_,h=>by simp at h
 | n+1,m+1,ln,c::r,h1,h2=>by
  rw[Af]at h1 h2
  unfold B1
  by_cases e1:c=10
  ·rw[if_pos e1,if_pos e1];exact Qw n m _ r (by omega) (by omega)
  rw[if_neg e1,if_neg e1]
  by_cases e2:c=32\/c=9\/c=13
  ·rw[if_pos e2,if_pos e2];exact Qw n m _ r (by omega) (by omega)
  rw[if_neg e2,if_neg e2]
  by_cases e3:c=47/\r.head?=some 47
  ·rw[if_pos e3,if_pos e3]
   have hd:((c::r).dropWhile (· != 10)).length<=r.length:=by
    rw[Pw,if_pos (by simp[e1])]
    exact Ty _ r
   exact Qw n m _ _ (by omega) (by omega)
  rw[if_neg e3,if_neg e3]
  cases hf:Gx (c::r) with
  | none=>rfl
  | some p=>
   obtain⟨k,w⟩:=p
   have hw:=(Ss hf).1
   simp only
   rw[Qw n m ln _ (by rw[C5,Af];omega) (by rw[C5,Af];omega)]
def N7(o:Option (List Tk)):Option (List Kt):=o.map fun l=>l.map Tk.kt
theorem Sy:∀ (n:Nat) (ln ln':Int) (l:List UInt8),N7 (B1 n ln l)=N7 (B1 n ln' l)
 | n,ln,ln',[]=>by cases n<;>rfl
 | 0,_,_,_::_=>rfl
 | n+1,ln,ln',c::r=>by
  unfold B1
  by_cases e1:c=10
  ·rw[if_pos e1,if_pos e1];exact Sy n _ _ r
  rw[if_neg e1,if_neg e1]
  by_cases e2:c=32\/c=9\/c=13
  ·rw[if_pos e2,if_pos e2];exact Sy n _ _ r
  rw[if_neg e2,if_neg e2]
  by_cases e3:c=47/\r.head?=some 47
  ·rw[if_pos e3,if_pos e3];exact Sy n _ _ _
  rw[if_neg e3,if_neg e3]
  cases hf:Gx (c::r) with
  | none=>rfl
  | some p=>
   obtain⟨k,w⟩:=p
   simp only
   have:=Sy n ln ln' ((c::r).drop w.length)
   unfold N7 at this ⊢
   simp only[Option.map_map]at this ⊢
   revert this
   cases B1 n ln ((c::r).drop w.length)<;>cases B1 n ln' ((c::r).drop w.length)<;>intro this
   ·rfl
   ·cases this
   ·cases this
   ·simp only[Et,Si]at this ⊢
    simp only[Function.comp_apply,A1,this]
    rfl
def Ee(l:List UInt8):Option (List Kt):=N7 (B1 l.length 1 l)
theorem Aqj{n:Nat}{ln:Int}{l:List UInt8}(h:l.length<=n):N7 (B1 n ln l)=Ee l:=by
 unfold Ee
 rw[Qw n l.length ln l h (Ah _)]
 exact Sy _ _ _ _
theorem Axy:Ee []=some []:=rfl
theorem Nm(r:List UInt8):Ee (32::r)=Ee r:=by
 unfold Ee
 rw[Af,B1,if_neg (by decide),if_pos (.inl rfl)]
def cons(ks:List Kt)(o:Option (List Kt)):Option (List Kt):=o.map fun l=>ks++l
theorem Z3(a b:List Kt)(o:Option (List Kt)):cons a (cons b o)=cons (a++b) o:=by cases o<;>simp[cons]
theorem Aqk(o:Option (List Kt)):cons [] o=o:=by cases o<;>rfl
theorem Xq{c:UInt8}{r w q:List UInt8}{k:Int}(he:c::r=w++q)(hf:Gx (c::r)=some (k,w))(h1:c≠10/\c≠32/\c≠9/\c≠13)(h2:¬ (c=47/\r.head?=some 47)):Ee (c::r)=cons [(k,w)] (Ee q):=by
 have h3:¬ (c=32\/c=9\/c=13):=fun h=>by
  rcases h with h | h | h
  ·exact h1.2.1 h
  ·exact h1.2.2.1 h
  ·exact h1.2.2.2 h
 have e:N7 (B1 (c::r).length 1 (c::r))=cons [(k,w)] (N7 (B1 r.length 1 q)):=by
  rw[Af,B1,if_neg h1.1,if_neg h3,if_neg h2,hf]
  simp only
  rw[he,List.drop_left]
  cases B1 r.length 1 q<;>rfl
 unfold Ee at e ⊢
 rw[e]
 congr 1
 refine Aqj ?_
 have hw:=(Ss hf).1
 have:=congrArg List.length he
 rw[Aj,Af]at this
 omega
theorem Lq(c:UInt8)(r:List UInt8):Gx (c::r)=if E9 c then(if 12<(Dk c r).length then none else some (if Hv (Dk c r) then 3 else 1,Dk c r))
  else if C1 c then(if L6 (r.dropWhile C1) then none else if K9 (Dh c r) then some (2,Dh c r) else none)
  else if Ge (c::r)=0 then none else some (4,(c::r).take (Ge (c::r))):=rfl
def Ut(r:List UInt8):Prop:=∀ c∈r.head?,F6 c=false
theorem Q8{c:UInt8}(r:List UInt8)(h:F6 c=false):Ut (c::r):=fun d hd=>by cases hd;exact h
theorem Zk{p:UInt8->Bool}:∀ (cs r:List UInt8),(∀ c∈cs,p c=true)->(∀ c∈r.head?,p c=false)->(cs++r).takeWhile p=cs/\(cs++r).dropWhile p=r
 | [],[],_,_=>⟨rfl,rfl⟩
 | [],c::r,_,h=>by
  have:=h c rfl
  simp[Px,Pw,this]
 | c::cs,r,h1,h2=>by
  have:=Zk cs r (fun d hd=>h1 d (Db _ hd)) h2
  simp[Px,Pw,h1 c Dm,this]
theorem An6:((List.range 256).all fun n=>!Nz n||(decide (n≠10)&&(decide (n≠32)&&(decide (n≠9)&&(decide (n≠13)&&(decide (n≠47)&&(decide (n≠61)&&N0 n)))))))=true:=by decide +kernel
theorem An7:((List.range 256).all fun n=>!Mb n||(decide (n≠10)&&(decide (n≠32)&&(decide (n≠9)&&(decide (n≠13)&&(decide (n≠47)&&(decide (n≠61)&&(!Nz n&&N0 n))))))))=true:=by decide +kernel
theorem I5{c:UInt8}{n:Nat}(hn:n<256)(h:c.toNat≠n):c≠UInt8.ofNat n:=by
 intro e
 subst e
 exact h (by simp[UInt8.toNat_ofNat,P2 hn])
theorem Aiu{c:UInt8}(h:E9 c=true):(c≠10/\c≠32/\c≠9/\c≠13)/\c≠47/\c≠61/\F6 c=true:=by
 have:=A3.1 An6 c.toNat (Ej.2 c.toNat_lt)
 unfold E9 at h
 rw[h]at this
 simp only[Lm,P6,Ae,decide_eq_true_eq]at this
 obtain⟨a1,a2,a3,a4,a5,a6,a7⟩:=this
 exact⟨⟨I5 (n:=10) (by decide) a1,I5 (n:=32) (by decide) a2,I5 (n:=9) (by decide) a3,I5 (n:=13) (by decide) a4⟩,I5 (n:=47) (by decide) a5,I5 (n:=61) (by decide) a6,a7⟩
theorem Atw{c:UInt8}(h:C1 c=true):(c≠10/\c≠32/\c≠9/\c≠13)/\c≠47/\c≠61/\E9 c=false/\F6 c=true:=by
 have:=A3.1 An7 c.toNat (Ej.2 c.toNat_lt)
 unfold C1 at h
 rw[h]at this
 simp only[Lm,P6,Ae,decide_eq_true_eq,J2]at this
 obtain⟨a1,a2,a3,a4,a5,a6,a7,a8⟩:=this
 exact⟨⟨I5 (n:=10) (by decide) a1,I5 (n:=32) (by decide) a2,I5 (n:=9) (by decide) a3,I5 (n:=13) (by decide) a4⟩,I5 (n:=47) (by decide) a5,I5 (n:=61) (by decide) a6,a7,a8⟩
theorem Aa7{c:UInt8}{cs r:List UInt8}(h1:E9 c=true)(h2:∀ d∈cs,F6 d=true)(h3:(c::cs).length<=12)(hr:Ut r):Ee ((c::cs)++r)=cons [(if Hv (c::cs) then 3 else 1,c::cs)] (Ee r):=by
 obtain⟨a1,a2,-⟩:=Aiu h1
 have ht:=(Zk (p:=F6) cs r h2 hr).1
 refine Xq (q:=r) rfl ?_ a1 fun h=>a2 h.1
 show Gx (c::(cs++r))=_
 have hn:¬ 12<(c::cs).length:=by omega
 rw[Lq,h1,if_pos rfl]
 simp only[Dk,ht]
 rw[if_neg hn]
theorem Ag9{l:List UInt8}(h:Dz l=true):∃ c cs,l=c::cs/\E9 c=true/\(∀ d∈cs,F6 d=true)/\(c::cs).length<=12/\Hv l=false:=by
 unfold Dz at h
 simp only[Ae,decide_eq_true_eq,J2,A3,Ej]at h
 obtain⟨h1,h2,h3,h4⟩:=h
 cases l with
 | nil=>simp at h1
 | cons c cs=>
  refine⟨c,cs,rfl,?_,fun d hd=>?_,h2,h3⟩
  ·have:=h4 0 (by simp)
   unfold N6 at this
   simpa[E9] using this
  ·obtain⟨i,hi,rfl⟩:=List.mem_iff_getElem.1 hd
   have:=h4 (i+1) (by simp;omega)
   unfold N6 at this
   simp only[List.getD_cons_succ]at this
   rw[Ak,Aw hi]at this
   simp only[P3]at this
   unfold F6 N0
   simp only[Is,Ae]at this ⊢
   rcases this with h | ⟨-,h | h⟩
   ·exact .inl h
   ·exact .inr (.inr h)
   ·exact .inr (.inl h)
theorem Aa8{nm r:List UInt8}(h:Dz nm=true)(hr:Ut r):Ee (nm++r)=cons [(1,nm)] (Ee r):=by
 obtain⟨c,cs,rfl,h1,h2,h3,h4⟩:=Ag9 h
 rw[Aa7 h1 h2 h3 hr,h4]
 rfl
def Akr:Prop:=∀ n:Int,0<=n/\n<=9223372036854775807->(∃ c cs,Cz n=c::cs/\C1 c=true/\∀ d∈cs,C1 d=true)/\K9 (Cz n)=true
theorem Al9{r:List UInt8}(h:Ut r):L6 r=false:=by
 cases r with
 | nil=>rfl
 | cons c r=>
  have:=h c rfl
  unfold F6 N0 at this
  simp only[Yu]at this
  unfold L6 E9
  simp only[Yu,beq_eq_false_iff_ne,ne_eq]
  refine⟨this.1,fun e=>?_⟩
  subst e
  have:=this.2.2
  simp at this
theorem Axz(hd:Akr){n:Int}(hn:0<=n/\n<=9223372036854775807){r:List UInt8}(hr:Ut r):Ee (Cz n++r)=cons [(2,Cz n)] (Ee r):=by
 obtain⟨⟨c,cs,e,h1,h2⟩,h3⟩:=hd n hn
 rw[e]at h3 ⊢
 obtain⟨a1,a2,-,a4,-⟩:=Atw h1
 have ht:=Zk (p:=C1) cs r h2 fun c hc=>by
  have:=hr c hc
  unfold F6 N0 at this
  simp only[Yu]at this
  exact this.2.1
 refine Xq (q:=r) rfl ?_ a1 fun h=>a2 h.1
 show Gx (c::(cs++r))=_
 rw[Lq,a4,if_neg (by simp),h1,if_pos rfl,ht.2,Al9 hr,if_neg (by simp)]
 simp only[Dh,ht.1]
 rw[h3,if_pos rfl]
def Rr:List UInt8:=[43,45,42,37,40,41,91,93,123,125,44,59]
theorem Q9{c:UInt8}(h:c∈Rr)(r:List UInt8):Ee (c::r)=cons [(4,[c])] (Ee r):=by
 refine Xq (q:=r) rfl ?_ ?_ ?_
 ·have hs:Ge (c::r)=1:=by
   unfold Ge
   have h0:(twoS.elem ((c::r).take 2))=false:=by
    cases r with
    | nil=>
     simp only[Rr,Br,Mk,or_false]at h
     rcases h with rfl | rfl | rfl | rfl | rfl | rfl | rfl | rfl | rfl | rfl | rfl | rfl<;>rfl
    | cons d r=>
     simp only[Sd,Y4,twoS]
     simp only[Rr,Br,Mk,or_false]at h
     rcases h with rfl | rfl | rfl | rfl | rfl | rfl | rfl | rfl | rfl | rfl | rfl | rfl<;>simp
   rw[h0,Bool.and_false]
   simp only[Rr,Br,Mk,or_false]at h
   rcases h with rfl | rfl | rfl | rfl | rfl | rfl | rfl | rfl | rfl | rfl | rfl | rfl<;>rfl
  have hl:E9 c=false/\C1 c=false:=by
   simp only[Rr,Br,Mk,or_false]at h
   rcases h with rfl | rfl | rfl | rfl | rfl | rfl | rfl | rfl | rfl | rfl | rfl | rfl<;>exact⟨rfl,rfl⟩
  rw[Lq,hl.1,hl.2,hs]
  rfl
 ·simp only[Rr,Br,Mk,or_false]at h
  rcases h with rfl | rfl | rfl | rfl | rfl | rfl | rfl | rfl | rfl | rfl | rfl | rfl<;>decide
 ·rintro⟨rfl,-⟩
  revert h
  decide
theorem An8(r:List UInt8):Ee (61::32::r)=cons [(4,[61])] (Ee (32::r)):=Xq (q:=32::r) rfl rfl (by decide) (by simp)
theorem Atx{op:Int}{z:Bool}{t:Nat}{a b:Xp}(h:6<=op/\op<=18):Xp.txt ⟨op,0,[],z,t,[a,b]⟩=Dt (a.op,a.txt) (Fb op)++32::(Bp op++32::Dt (b.op,b.txt) (Ap op+1)):=by
 simp only[Xp.txt,Xp.txts,D6]
 rw[if_neg (by omega),if_neg (by omega)]
theorem Ax0{op:Int}{z:Bool}{t:Nat}{a:Xp}(h:op=4\/op=5):Xp.txt ⟨op,0,[],z,t,[a]⟩=Bp op++Dt (a.op,a.txt) 6/\Xp.toks ⟨op,0,[],z,t,[a]⟩=(4,Bp op)::G9 (a.op,a.toks) 6:=by
 simp only[Xp.txt,Xp.txts,D6,Xp.toks,Xp.tokss,Nj]
 rw[if_neg (by omega),if_neg (by omega),if_neg (by omega),if_neg (by omega),if_neg (by omega),if_neg (by omega)]
 exact⟨rfl,rfl⟩
end Go.Proofs.YtcoeikinocflnaaGreatDoor.KM
