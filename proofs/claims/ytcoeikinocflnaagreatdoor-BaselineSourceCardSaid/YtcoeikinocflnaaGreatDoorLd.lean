/- Plain: scanning the texts of expressions. -/
import Derived.Test.YtcoeikinocflnaaGreatDoorHx
set_option linter.all false
namespace Go.Proofs.YtcoeikinocflnaaGreatDoor.KM
open Go
theorem Uk(p:UInt8->Bool):∀ l:List UInt8,(l.dropWhile p).length<=l.length
 | []=>Ah _
 | c::r=>by
  rw[V4]
  split
  ·exact Nat.le_succ_of_le (Uk p r)
  ·exact Ah _
theorem Ajd{c:UInt8}{r:List UInt8}(h:H1 (c::r)≠0):1<=H1 (c::r)/\H1 (c::r)<=(c::r).length:=by
 unfold H1 at h ⊢
 split
 ·rename_i h1;simp only[Af,decide_eq_true_eq]at h1;exact⟨by omega,h1.1⟩
 ·simp only[Am]
  split
  ·omega
  ·rename_i h1 h2;rw[if_neg h1]at h;simp only[if_neg h2]at h;exact absurd rfl h
theorem Wv{c:UInt8}{r:List UInt8}{k:Int}{w:List UInt8}(h:Jq (c::r)=some (k,w)):1<=w.length/\∃ q,c::r=w++q:=by
 unfold Jq at h;simp only at h
 split at h
 ·split at h
  ·cases h
  ·cases h;exact⟨by simp[D4],r.dropWhile Le,by simp[D4,List.takeWhile_append_dropWhile]⟩
 ·split at h
  ·split at h
   ·cases h
   ·split at h
    ·cases h;exact⟨by simp[Du],r.dropWhile Ei,by simp[Du,List.takeWhile_append_dropWhile]⟩
    ·cases h
  ·split at h
   ·cases h
   ·rename_i hs;have:=Ajd hs;cases h;exact⟨by rw[F2];omega,(c::r).drop (H1 (c::r)),(Lh _ _).symm⟩
theorem T4:∀ (n m:Nat) (ln:Int) (l:List UInt8),l.length<=n->l.length<=m->Dn n ln l=Dn m ln l
 | n,m,ln,[],_,_=>by cases n<;>cases m<;>rfl
 | 0,_,_,_::_,h,_=>by simp at h
 | _+1,0,_,_::_,_,h=>by simp at h
 | n+1,m+1,ln,c::r,h1,h2=>by
  rw[Am]at h1 h2;unfold Dn;by_cases e1:c=10
  ·rw[if_pos e1,if_pos e1];exact T4 n m _ r (by omega) (by omega)
  rw[if_neg e1,if_neg e1];by_cases e2:c=32\/c=9\/c=13
  ·rw[if_pos e2,if_pos e2];exact T4 n m _ r (by omega) (by omega)
  rw[if_neg e2,if_neg e2];by_cases e3:c=47/\r.head?=some 47
  ·rw[if_pos e3,if_pos e3]
   have hd:((c::r).dropWhile (· != 10)).length<=r.length:=by
    rw[V4,if_pos (by simp[e1])];exact Uk _ r
   exact T4 n m _ _ (by omega) (by omega)
  rw[if_neg e3,if_neg e3]
  cases hf:Jq (c::r) with
  | none=>rfl
  | some p=>
   obtain⟨k,w⟩:=p;have hw:=(Wv hf).1;simp only;rw[T4 n m ln _ (by rw[D0,Am];omega) (by rw[D0,Am];omega)]
def cons(ks:List Kt)(o:Option (List Kt)):Option (List Kt):=o.map fun l=>ks++l
theorem Qz(c:UInt8)(r:List UInt8):Jq (c::r)=if G8 c then(if 12<(D4 c r).length then none else some (if F9 (D4 c r) then 3 else 1,D4 c r))
  else if Ei c then(if Pt (r.dropWhile Ei) then none else if Mz (Du c r) then some (2,Du c r) else none)
  else if H1 (c::r)=0 then none else some (4,(c::r).take (H1 (c::r))):=rfl
theorem Aoy:((List.range 256).all fun n=>!I6 n||(decide (n≠10)&&(decide (n≠32)&&(decide (n≠9)&&(decide (n≠13)&&(decide (n≠47)&&(decide (n≠61)&&J0 n)))))))=true:=by decide +kernel
theorem R7{c:UInt8}{n:Nat}(hn:n<256)(h:c.toNat≠n):c≠UInt8.ofNat n:=by
 intro e;subst e;exact h (by simp[UInt8.toNat_ofNat,S3 hn])
theorem Aul{c:UInt8}(h:G8 c=true):(c≠10/\c≠32/\c≠9/\c≠13)/\c≠47/\c≠61/\Le c=true:=by
 have:=Bd.1 Aoy c.toNat (Fc.2 c.toNat_lt);unfold G8 at h;rw[h]at this;simp only[Ap,Ta,Af,decide_eq_true_eq]at this;obtain⟨a1,a2,a3,a4,a5,a6,a7⟩:=this;exact⟨⟨R7 (n:=10) (by decide) a1,R7 (n:=32) (by decide) a2,R7 (n:=9) (by decide) a3,R7 (n:=13) (by decide) a4⟩,R7 (n:=47) (by decide) a5,R7 (n:=61) (by decide) a6,a7⟩
theorem Aq6{l:List UInt8}(h:Bv l=true):∃ c cs,l=c::cs/\G8 c=true/\(∀ d∈cs,Le d=true)/\(c::cs).length<=12/\F9 l=false:=by
 unfold Bv at h;simp only[Af,decide_eq_true_eq,H8,Bd,Fc]at h;obtain⟨h1,h2,h3,h4⟩:=h
 cases l with
 | nil=>simp at h1
 | cons c cs=>
  refine⟨c,cs,rfl,?_,fun d hd=>?_,h2,h3⟩
  ·have:=h4 0 (by simp);unfold Lf at this;simpa[G8] using this
  ·obtain⟨i,hi,rfl⟩:=List.mem_iff_getElem.1 hd;have:=h4 (i+1) (by simp;omega);unfold Lf at this;simp only[List.getD_cons_succ]at this;rw[Aq,A0 hi]at this;simp only[Wa]at this;unfold Le J0;simp only[Hb,Af]at this ⊢;rcases this with h | ⟨-,h | h⟩
   ·exact .inl h
   ·exact .inr (.inr h)
   ·exact .inr (.inl h)
theorem Aum{op:Int}{z:Bool}{t:Nat}{a b:Xp}(h:6<=op/\op<=18):Xp.txt ⟨op,0,[],z,t,[a,b]⟩=Dg (a.op,a.txt) (F6 op)++32::(Cd op++32::Dg (b.op,b.txt) (Bj op+1)):=by
 simp only[Xp.txt,Xp.txts,Di];rw[if_neg (by omega),if_neg (by omega)]
theorem Aya{op:Int}{z:Bool}{t:Nat}{a:Xp}(h:op=4\/op=5):Xp.txt ⟨op,0,[],z,t,[a]⟩=Cd op++Dg (a.op,a.txt) 6/\Xp.toks ⟨op,0,[],z,t,[a]⟩=(4,Cd op)::Zc (a.op,a.toks) 6:=by
 simp only[Xp.txt,Xp.txts,Di,Xp.toks,Xp.tokss,All];rw[if_neg (by omega),if_neg (by omega),if_neg (by omega),if_neg (by omega),if_neg (by omega),if_neg (by omega)];exact⟨rfl,rfl⟩
def Fz(acc:Nat)(l:List UInt8):Nat:=l.foldl (fun a c=>a*10+(c.toNat - 48)) acc
def H6(l:List UInt8):Prop:=∀ c∈l,Ei c=true
theorem Rn(acc:Nat):Fz acc []=acc:=rfl
theorem Yd(acc:Nat)(c:UInt8)(r:List UInt8):Fz acc (c::r)=Fz (acc*10+(c.toNat - 48)) r:=by unfold Fz;rw[List.foldl_cons]
theorem Pl{c:UInt8}{l:List UInt8}(h:H6 (c::l)):H6 l:=fun d hd=>h d (Dz _ hd)
theorem Ayb{c:UInt8}(h:Ei c=true):48<=c.toNat/\c.toNat<=57:=by
 unfold Ei Om at h;simpa using h
theorem Ro{c:UInt8}{l:List UInt8}(h:H6 (c::l)):48<=c.toNat/\c.toNat<=57:=Ayb (h c Ec)
theorem Ul:∀ (l:List UInt8) (acc:Nat),acc*10 ^ l.length<=Fz acc l
 | [],acc=>by rw[Rn];simp
 | c::l,acc=>by
  have:=Ul l (acc*10+(c.toNat - 48));have h1:acc*10*10 ^ l.length<=(acc*10+(c.toNat - 48))*10 ^ l.length:=Eo _ (by omega);have e:acc*10 ^ (l.length+1)=acc*10*10 ^ l.length:=by rw[Nat.pow_succ,Qq (10 ^ l.length),Nat.mul_assoc]
  rw[Am,e];exact Cj h1 this
theorem Xx:∀ (l:List UInt8) (acc:Nat),H6 l->Fz acc l<(acc+1)*10 ^ l.length
 | [],acc,_=>by rw[Rn];simp
 | c::l,acc,h=>by
  have:=Xx l (acc*10+(c.toNat - 48)) (Pl h);have hc:=Ro h;have h1:(acc*10+(c.toNat - 48)+1)*10 ^ l.length<=(acc*10+10)*10 ^ l.length:=Eo _ (by omega);have e:(acc+1)*10 ^ (l.length+1)=(acc*10+10)*10 ^ l.length:=by rw[Nat.pow_succ,Qq (10 ^ l.length),<-Nat.mul_assoc,show(acc+1)*10=acc*10+10 by omega]
  rw[Am,e];exact Qj this h1
theorem Ahw:∀ (a b:List UInt8) (acc:Nat),H6 a->H6 b->a.length=b.length->Op.bytesLess a b=decide (Fz acc a<Fz acc b)
 | [],[],acc,_,_,_=>by simp[Op.bytesLess]
 | [],_::_,_,_,_,h=>by simp at h
 | _::_,[],_,_,_,h=>by simp at h
 | x::a,y::b,acc,ha,hb,h=>by
  have hx:=Ro ha;have hy:=Ro hb;have hl:a.length=b.length:=by simpa using h
  simp only[Op.bytesLess];by_cases h1:x<y
  ·have h1':x.toNat<y.toNat:=h1;rw[decide_eq_true h1,Bool.true_or]
   symm
   rw[decide_eq_true_eq];have p1:=Xx a (acc*10+(x.toNat - 48)) (Pl ha);have p2:=Ul b (acc*10+(y.toNat - 48));have p3:(acc*10+(x.toNat - 48)+1)*10 ^ a.length<=(acc*10+(y.toNat - 48))*10 ^ a.length:=Eo _ (by omega);simp only[Yd,Rn];rw[hl]at p1 p3;omega
  ·rw[decide_eq_false h1,Ta];have h1':y.toNat<=x.toNat:=Nat.le_of_not_lt h1;by_cases h2:x=y
   ·subst h2;rw[beq_self_eq_true,Z5];exact Ahw a b _ (Pl ha) (Pl hb) hl
   ·have h2':y.toNat<x.toNat:=by
     have:x.toNat≠y.toNat:=fun e=>h2 (UInt8.toNat_inj.1 e)
     omega
    rw[beq_eq_false_iff_ne.2 h2,Qp]
    symm
    rw[decide_eq_false_iff_not];have p1:=Xx b (acc*10+(y.toNat - 48)) (Pl hb);have p2:=Ul a (acc*10+(x.toNat - 48));have p3:(acc*10+(y.toNat - 48)+1)*10 ^ b.length<=(acc*10+(x.toNat - 48))*10 ^ b.length:=Eo _ (by omega);simp only[Yd,Rn];rw[hl]at p2;omega
theorem Ahx:∀ (l:List UInt8),Fz 0 (l.dropWhile (·==48))=Fz 0 l
 | []=>rfl
 | c::l=>by
  rw[V4]
  split
  ·rename_i h;have hc:c=48:=by simpa using h
   subst hc;rw[Ahx l];rfl
  ·rfl
theorem Agk:∀ {l:List UInt8},H6 l->H6 (l.dropWhile (·==48))/\∀ c r,l.dropWhile (·==48)=c::r->49<=c.toNat
 | [],_=>⟨fun _ h=>by simp at h,fun c r h=>by simp at h⟩
 | c::l,h=>by
  rw[V4]
  split
  ·exact Agk (Pl h)
  ·rename_i hc;refine⟨h,fun d r e=>?_⟩;cases e;have:=Ro h;have h2:c.toNat≠48:=fun e=>hc (by simp[UInt8.toNat_inj.1 (show c.toNat=(48:UInt8).toNat from e)])
   omega
theorem Agl{w:List UInt8}(h:H6 w):Mz w=decide (Fz 0 w<=9223372036854775807):=by
 obtain⟨h1,h2⟩:=Agk h;rw[<-Ahx w];unfold Mz;simp only;generalize w.dropWhile (·==48)=d at h1 h2 ⊢;have hg:Fz 0 greatS=9223372036854775807:=by decide
 have hgd:H6 greatS:=fun c hc=>by
  have:greatS.all Ei=true:=by decide
  exact Bd.1 this c hc
 by_cases hl:19<d.length
 ·rw[decide_eq_true hl,Bool.true_or,Ap]
  symm
  rw[decide_eq_false_iff_not]
  match d,hl,h1,h2 with
  | c::r,hl,h1,h2=>
   have hc:=h2 c r rfl;have hlo:=Ul r (0*10+(c.toNat - 48));simp only[Yd,Rn];have:10 ^ 19<=10 ^ r.length:=Nat.pow_le_pow_right (by decide) (by simp at hl;omega);have h3:1*10 ^ r.length<=(0*10+(c.toNat - 48))*10 ^ r.length:=Eo _ (by omega);omega
 ·rw[decide_eq_false hl,Ta];by_cases h19:d.length=19
  ·rw[decide_eq_true h19,Z5,Ahw greatS d 0 hgd h1 (by rw[h19];rfl),hg];by_cases hv:9223372036854775807<Fz 0 d
   ·rw[decide_eq_true hv]
    symm
    rw[Ap,decide_eq_false_iff_not];omega
   ·rw[decide_eq_false hv]
    symm
    rw[Av,decide_eq_true_eq];omega
  ·rw[decide_eq_false h19,Qp,Av]
   symm
   rw[decide_eq_true_eq];have hhi:=Xx d 0 h1;have:10 ^ d.length<=10 ^ 18:=Nat.pow_le_pow_right (by decide) (by omega);omega
theorem Aun(l:List UInt8)(acc:Nat):acc<=Fz acc l:=by
 have:=Ul l acc;have h:1<=10 ^ l.length:=Nat.one_le_pow _ _ (by decide);have:=Nat.mul_le_mul_left acc h;omega
theorem pum:∀ (l:List UInt8) (acc:Nat),H6 l->Fz acc l<=18446744073709551615->Lib.parseUintM 18446744073709551615 acc l=.ok (Fz acc l)
 | [],_,_,_=>rfl
 | c::l,acc,h,hv=>by
  have hc:=Ro h;have hge:=Aun l (acc*10+(c.toNat - 48));simp only[Yd,Rn]at hv ⊢;rw[Lib.parseUintM,if_pos hc,if_neg (by omega),if_neg (by omega)];exact pum l _ (Pl h) hv
theorem Amd{c:UInt8}{l:List UInt8}(h:H6 (c::l))(hv:Fz 0 (c::l)<=9223372036854775807):Lib.parseIntB 64 (c::l)=.ok (Fz 0 (c::l):Int):=by
 have hc:=Ro h;have hp:=pum (c::l) 0 h (by omega);unfold Lib.parseIntB;simp only;rw[if_neg (by omega)];unfold Lib.parseUintB;rw[if_neg (by simp),show(2 ^ 64 - 1:Nat)=18446744073709551615 by decide,hp];simp only;rw[if_neg (by omega),if_neg (by omega),if_neg (by omega)]
theorem Ahy{c:UInt8}{l:List UInt8}(h:H6 (c::l))(hv:Fz 0 (c::l)<=9223372036854775807):Hm (c::l)=(Fz 0 (c::l):Int):=by
 unfold Hm;rw[Amd h hv]
/-! declarations -/
/-! threads -/
/-! equal expressions have the same tokens and texts -/
mutual
theorem Aa2:∀ (x y:Xp),Yx x y=true->x.op=y.op/\x.toks=y.toks/\x.txt=y.txt
 | ⟨op,n,nm,z,t,l⟩,⟨op',n',nm',z',t',l'⟩,h=>by
  simp only[Yx,Af,beq_iff_eq]at h;obtain⟨rfl,rfl,rfl,h⟩:=h;obtain⟨h1,h2⟩:=Afk l l' h;simp only[Xp.toks,Xp.txt,h1,h2];exact⟨trivial,trivial,trivial⟩
theorem Afk:∀ (l l':List Xp),Pk l l'=true->Xp.tokss l=Xp.tokss l'/\Xp.txts l=Xp.txts l'
 | [],[],_=>⟨rfl,rfl⟩
 | x::l,y::l',h=>by
  simp only[Pk,Af]at h;obtain⟨h1,h2,h3⟩:=Aa2 x y h.1;obtain⟨h4,h5⟩:=Afk l l' h.2;simp only[Xp.tokss,Xp.txts,h1,h2,h3,h4,h5];exact⟨trivial,trivial⟩
 | [],_::_,h=>by cases h
 | _::_,[],h=>by cases h
end
/-! what is parsed has no more tokens than its text needs -/
theorem Auo(s:List UInt8):G9 s=(0,0)\/((6<=(G9 s).1/\(G9 s).1<=18)/\(G9 s).2=Bj (G9 s).1):=by
 unfold G9
 cases h:opTab.lookup s with
 | none=>exact .inl rfl
 | some p=>
  have hm:∃ k,(k,p)∈opTab:=by
   revert h;generalize opTab=l
   induction l with
   | nil=>intro h;cases h
   | cons q l ih=>
    intro h;obtain⟨k,v⟩:=q;rw[We]at h
    split at h
    ·cases h;exact⟨k,Ec⟩
    ·obtain⟨k',hk⟩:=ih h;exact⟨k',Dz _ hk⟩
  obtain⟨k,hk⟩:=hm;have hall:(opTab.all fun q=>decide ((6<=q.2.1/\q.2.1<=18)/\q.2.2=Bj q.2.1))=true:=by decide
  exact .inr (by simpa using Bd.1 hall _ hk)
theorem Aq7{lvl:Nat}{ts:List Tk}(h:F8 lvl ts≠0):(6<=F8 lvl ts/\F8 lvl ts<=18)/\Bj (F8 lvl ts)=lvl/\ts.length=ts.tail.length+1:=by
 cases ts with
 | nil=>exact absurd rfl h
 | cons t ts=>
  simp only[F8]at h ⊢
  split at h
  ·split at h
   ·rename_i h1 h2;rw[if_pos h1,if_pos h2];rcases Auo t.text with e | e
    ·rw[e]at h;exact absurd rfl h
    ·exact⟨e.1,by rw[<-e.2,h2],by simp⟩
   ·exact absurd rfl h
  ·exact absurd rfl h
/-! parentheses -/
def flatB(l:List UInt8):Prop:=∀ c∈l,c≠40/\c≠41
