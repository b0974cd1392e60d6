/- Effects in drawn regions, their checks done by themselves; lists. -/
import Derived.Lib.Join
import Derived.Test.YtdbnbejffjhdlaaGreatDoorLi
set_option linter.all false
namespace Go.Proofs.YtdbnbejffjhdlaaGreatDoor.KM
open Go
def AN{p:Prop}(h:p:=by assumption):p:=h
def rd1{s:St}{ob k off x:Nat}{cs:List V}{v:V}{e:Env}(q:s[ob]?=some (.row cs k 0 0))(he:e.get x=.ptr ob 0 off)(hc:cs[off]?=some v):Af (.load 1 true (.t x)) e s=some (v,s):=by
 simp only[Af,Ac,he,H6,q];have hl:=(Al.1 hc).1
 rw[if_pos ⟨trivial,by omega⟩,show(cs.drop off).take 1=[v] by
  rw[Gr hl,List.take_succ_cons,Ahn];have:=(Al.1 hc).2
  rw[this]]
 rfl
def Er{s:St}{ob off x:Nat}{v:V}{e:Env}(he:e.get x=.ptr ob 0 off)(h:∃ cs k,s[ob]?=some (.row cs k 0 0)/\cs[off]?=some v):Af (.load 1 true (.t x)) e s=some (v,s):=by
 obtain⟨cs,k,q,hc⟩:=h;exact rd1 q he hc
def K5{s:St}{off x:Nat}{cs:List V}{v:V}{e:Env}(he:e.get x=.imm cs off)(hc:cs[off]?=some v):Af (.load 1 true (.t x)) e s=some (v,s):=by
 simp only[Af,Ac,he,H6];have hl:=(Al.1 hc).1
 have hd:(cs.drop off).take 1=[v]:=by
  rw[Gr hl,List.take_succ_cons,Ahn];have:=(Al.1 hc).2;rw[this]
 rw[hd];simp[Hu];omega
def Es{s:St}{ob k x n:Nat}{cs:List V}{e:Env}(q:s[ob]?=some (.row cs k 0 0))(he:e.get x=.ptr ob 0 0)(hn:cs.length=n):Af (.load n false (.t x)) e s=some (.agg cs,s):=by
 subst hn;simp only[Af,Ac,he,H6,q];simp[Hu]
def Qi{s:St}{x n:Nat}{cs:List V}{e:Env}(he:e.get x=.imm cs 0)(hn:cs.length=n):Af (.load n false (.t x)) e s=some (.agg cs,s):=by
 subst hn;simp only[Af,Ac,he,H6];simp[Hu]
section
variable {T:Nat->Option AF} {pr:Nat->Option (List V->Option V)} {qh:List (List Nat)} {n m:Nat} {e:Env} {σ:St} {fs:Fs} {ls:Ls} {K:Env->St->Fs->Ls->Prop} {i:AI}
def Be{v:V}{σ1:St}(h:K (e.putO i.dst v) σ1 ((m,σ,σ1)::fs) ls)(h1:Qk qh n m fs:=by repeat (first | exact trivial | refine⟨.inl AK,?_⟩ | refine⟨by rfl,?_⟩ | refine⟨.inr ⟨by rfl,by rfl⟩,?_⟩ | refine⟨.inr ⟨by(first | exact K5 rfl rfl | exact Qi rfl AK | exact Er rfl ⟨_,_,by assumption,by rfl⟩ | exact Er rfl ⟨_,_,Bs AN,by rfl⟩ | exact Es AN rfl AK | exact Es (Bs AN) rfl AK),by(first | exact K5 rfl rfl | exact Qi rfl AK | exact Er rfl ⟨_,_,by assumption,by rfl⟩ | exact Er rfl ⟨_,_,Bs AN,by rfl⟩ | exact Es AN rfl AK | exact Es (Bs AN) rfl AK)⟩,?_⟩))(h2:Ql qh n m σ σ1 ls:=by repeat (first | exact trivial | refine⟨.inl AK,?_⟩ | refine⟨by rfl,?_⟩ | refine⟨.inr ⟨by rfl,by rfl⟩,?_⟩ | refine⟨.inr ⟨by(first | exact K5 rfl rfl | exact Qi rfl AK | exact Er rfl ⟨_,_,by assumption,by rfl⟩ | exact Er rfl ⟨_,_,Bs AN,by rfl⟩ | exact Es AN rfl AK | exact Es (Bs AN) rfl AK),by(first | exact K5 rfl rfl | exact Qi rfl AK | exact Er rfl ⟨_,_,by assumption,by rfl⟩ | exact Er rfl ⟨_,_,Bs AN,by rfl⟩ | exact Es AN rfl AK | exact Es (Bs AN) rfl AK)⟩,?_⟩)):Me qh n m i .ef v σ1 e σ fs ls K:=⟨h1,h2,h⟩
def wgR{v:V}{σ1:St}(h:K (e.putO i.dst v) σ fs ((m,fun s=>Af i.op e s=some (v,s))::ls))(h1:X8 qh n m (fun s=>Af i.op e s=some (v,s)) fs:=by repeat (first | exact trivial | refine⟨.inl AK,?_⟩ | refine⟨by rfl,?_⟩ | refine⟨.inr ⟨by rfl,by rfl⟩,?_⟩ | refine⟨.inr ⟨by(first | exact K5 rfl rfl | exact Qi rfl AK | exact Er rfl ⟨_,_,by assumption,by rfl⟩ | exact Er rfl ⟨_,_,Bs AN,by rfl⟩ | exact Es AN rfl AK | exact Es (Bs AN) rfl AK),by(first | exact K5 rfl rfl | exact Qi rfl AK | exact Er rfl ⟨_,_,by assumption,by rfl⟩ | exact Er rfl ⟨_,_,Bs AN,by rfl⟩ | exact Es AN rfl AK | exact Es (Bs AN) rfl AK)⟩,?_⟩)):Me qh n m i .rd v σ1 e σ fs ls K:=⟨h1,h⟩
def Id{f:Nat}{vs:List V}{v:V}{σ1:St}(hf:Bt T pr f vs σ v σ1)(h:K (e.putO i.dst v) σ1 ((m,σ,σ1)::fs) ls)(h1:Qk qh n m fs:=by repeat (first | exact trivial | refine⟨.inl AK,?_⟩ | refine⟨by rfl,?_⟩ | refine⟨.inr ⟨by rfl,by rfl⟩,?_⟩ | refine⟨.inr ⟨by(first | exact K5 rfl rfl | exact Qi rfl AK | exact Er rfl ⟨_,_,by assumption,by rfl⟩ | exact Er rfl ⟨_,_,Bs AN,by rfl⟩ | exact Es AN rfl AK | exact Es (Bs AN) rfl AK),by(first | exact K5 rfl rfl | exact Qi rfl AK | exact Er rfl ⟨_,_,by assumption,by rfl⟩ | exact Er rfl ⟨_,_,Bs AN,by rfl⟩ | exact Es AN rfl AK | exact Es (Bs AN) rfl AK)⟩,?_⟩))(h2:Ql qh n m σ σ1 ls:=by repeat (first | exact trivial | refine⟨.inl AK,?_⟩ | refine⟨by rfl,?_⟩ | refine⟨.inr ⟨by rfl,by rfl⟩,?_⟩ | refine⟨.inr ⟨by(first | exact K5 rfl rfl | exact Qi rfl AK | exact Er rfl ⟨_,_,by assumption,by rfl⟩ | exact Er rfl ⟨_,_,Bs AN,by rfl⟩ | exact Es AN rfl AK | exact Es (Bs AN) rfl AK),by(first | exact K5 rfl rfl | exact Qi rfl AK | exact Er rfl ⟨_,_,by assumption,by rfl⟩ | exact Er rfl ⟨_,_,Bs AN,by rfl⟩ | exact Es AN rfl AK | exact Es (Bs AN) rfl AK)⟩,?_⟩)):Hw T pr qh n m i (.call f vs) e σ fs ls K:=.inr (.inr ⟨v,σ1,.any hf,h1,h2,h⟩)
end
open Go Go.RowKit Go.Sort
variable {G:List (Nat × List V)}
def A4e{x:Sp}(h:CnS x)(d:Nat)(D:Int)(g0:max D 0=(d:Int))(hl:(x.txt d).length<=10000000000000)(hd:d+x.sz<=1073741823):Fn TT PT 128 [.agg x.row,iV D] (.str (x.txt d)):=by
 have qj:=Hg x;refine Bc T128 rfl ?_
 have w0:WB [.row x.row 104 0 0,.row [.nilp,.nils] 216 0 0] [.row x.row 104 0 0,.row [.nilp,.nils] 216 0 0] 1 []:=by
  refine Asg (u:=.nils) ⟨.nilp,rfl,.inl rfl,De⟩ ?_;exact Jg (Jj (s:=[]) (fun _ h=>by cases h) qj) AT
 obtain⟨s1,q1,v1⟩:=A7h h _ 1 [] d w0 (by simpa using hl) hd;obtain⟨s2,qL⟩:=Aww v1;rw[Ci]at qL;have qn:=Fq x;rw[qn]at q1 qj ⊢;simp only[go_sem,g0];refine B8 q1 ?_;simp only[go_sem];refine Jf (.spec T166 rfl rfl qL) ?_;simp only[go_sem];exact F5 rfl
def A7s{x:Sp}(h:CnS x)(d:Nat)(hl:(x.txt d).length<=10000000000000)(hd:d+x.sz<=1073741823):Fn TT PT 128 [.agg x.row,iV (d:Int)] (.str (x.txt d)):=A4e h d _ AA hl hd
def TS(s:St)(b:Nat):Prop:=∃ (z:Bool) (t:Nat) (l:List UInt8) (qc:Nat),s[b]?=some (.row [SL z t (B4 l),iV (qc:Int)] 95 0 0)/\qc<=l.length/\l.length<=9223372036854775807
def TW(s σ:St)(b:Nat):Prop:=s.length<=σ.length/\(∀ i,i<s.length->i≠b->σ[i]?=s[i]?)/\TS σ b/\b<s.length
def Mu{s:St}{b:Nat}(h:TS s b):b<s.length:=by
 obtain⟨z,t,l,a,h,-⟩:=h;exact(Al.1 h).1
def Bci{s:St}{b:Nat}(h:TS s b):TW s s b:=⟨An _,fun _ _ _=>rfl,h,Mu h⟩
def Bcj{s l:St}{b:Nat}(h:TS s b):TS (s++l) b:=by
 obtain⟨z,t,r,a,h,h'⟩:=h;exact⟨z,t,r,a,Bs h,h'⟩
def Ao7{z:Bool}{t:Nat}{l:List UInt8}{a:Int}{T:Nat}:(Ob.row [SL z t (B4 l),iV a] T 0 0).refs=[]:=by
 unfold SL
 split<;>rfl
def Aw4{T:Nat->Option AF}{pr:Nat->Option (List V->Option V)}{f p:Nat}{res:List AR}{thr:Bool}{body:AC}{vs:List V}{σ:St}{R:V->St->Prop}(hT:T f=some ⟨p,res,thr,body,none⟩)(hl:vs.length=p)
  (h:W T pr [.c body] (C6 0 vs) σ (Hd fun e' σ1=>∃ v,Ca e' σ1 res=some v/\(Cb v=true/\v.refs=[])/\(∀ i ob,i<σ.length->σ1[i]?=some ob->σ[i]?=some ob\/Ef σ.length [] ob.refs=true)/\R v (σ1.take σ.length))):∃ v σ',Bt T pr f vs σ v σ'/\R v σ':=by
 obtain⟨e',σ1,hE,v,hr,⟨h1,h2⟩,h3,h4⟩:=h;exact⟨v,_,⟨_,hT,rfl,.fn hT rfl hl hE hr h1 (by rw[h2];rfl) h3⟩,h4⟩
def Bck{s σ:St}{b:Nat}(h:TW s σ b):∀ i ob,i<s.length->σ[i]?=some ob->s[i]?=some ob\/Ef s.length [] ob.refs=true:=by
 intro i ob hi ho;by_cases hb:i=b
 .subst hb;obtain⟨z,t,l,a,h1,-⟩:=h.2.2.1;rw[ho]at h1;cases h1;exact .inr (by rw[Ao7];rfl)
 .rw[h.2.1 i hi hb]at ho;exact .inl ho
def Rt(l:List UInt8)(a n:Nat):Nat:=if a<l.length/\1<=n then((l[a]?).getD 0).toNat % n else 0
def Vw(l:List UInt8)(a n:Nat):Nat:=if a<l.length/\1<=n then a+1 else a
theorem Ot{s:St}{b:Nat}{x:Ob}(h:s[b]?=some x):s.set b x=s:=by
 refine Tx fun i=>?_
 by_cases hi:b=i
 .subst hi;rw[Bv (Al.1 h).1,h]
 .rw[Bk hi]
def Au8{s:St}{b t:Nat}{z:Bool}{l:List UInt8}{qc:Nat}(hs:s[b]?=some (.row [SL z t (B4 l),iV (qc:Int)] 95 0 0))(h1:qc<=l.length)(h2:l.length<=9223372036854775807)(n:Nat)(hn:n<=1000000000):
  Bt TT PT 41 [.ptr b 0 0,iV (n:Int)] s (iV (Rt l qc n:Int)) (s.set b (.row [SL z t (B4 l),iV (Vw l qc n:Int)] 95 0 0)):=by
 have hw:TW s s b:=Bci ⟨z,t,l,qc,hs,h1,h2⟩;have qm:(B4 l).length=l.length:=by simp[B4]
 suffices hh:∃ v s',Bt TT PT 41 [.ptr b 0 0,iV (n:Int)] s v s'/\v=iV (Rt l qc n:Int)/\s'=(s.set b (.row [SL z t (B4 l),iV (Vw l qc n:Int)] 95 0 0)) by
  obtain⟨v,s',h3,rfl,rfl⟩:=hh;exact h3
 refine Aw4 T41 rfl ?_
 have qD:¬ (qc<l.length/\1<=n)->iV 0=iV (Rt l qc n:Int)/\s.take s.length=(s.set b (.row [SL z t (B4 l),iV (Vw l qc n:Int)] 95 0 0)):=fun h=>by
  unfold Rt Vw;rw[if_neg h,if_neg h,Ot hs,Dg];exact⟨rfl,rfl⟩
 by_cases hg:l.length<=qc
 .have f1:((l.length:Int)<=(qc:Int))=True:=eq_true AA;simp only[go_sem];refine Ad AD ?_;simp only[go_sem,hs,qm,f1];exact⟨_,rfl,⟨rfl,rfl⟩,fun i ob _ h=>.inl h,qD AA⟩
 .have f1:((l.length:Int)<=(qc:Int))=False:=eq_false AA;by_cases jb:n<1
  .have f2:((n:Int)<1)=True:=eq_true AA;simp only[go_sem];refine Ad AD ?_;simp only[go_sem,hs,qm,f1,f2];exact⟨_,rfl,⟨rfl,rfl⟩,fun i ob _ h=>.inl h,qD AA⟩
  .have f2:((n:Int)<1)=False:=eq_false AA;simp only[go_sem];refine Ad AD ?_;simp only[go_sem,hs,qm,f1,f2];have hx:∃ c:UInt8,l[qc]?=some c:=⟨_,Cd AA⟩;obtain⟨c,hc⟩:=hx;have qn:(B4 l)[qc]?=some [.int .u8 (c.toNat:Int)]:=by unfold B4;rw[Ai,hc];rfl
   have e1:IntKind.i64.wrap ((qc:Int)+1)=((qc+1:Nat):Int):=by rw[B7 AA];rfl
   have qp:=Mu hw.2.2.1;have k1:(s.set b (.row [SL z t (B4 l),iV ((qc+1:Nat):Int)] 95 0 0))[b]?=some (.row [SL z t (B4 l),iV ((qc+1:Nat):Int)] 95 0 0):=by rw[Bv qp]
   have e2:IntKind.i64.wrap (((qc+1:Nat):Int) - 1)=(qc:Int):=by rw[B7 AA];omega
   have f3:((n:Int)=0)=False:=eq_false AA;have qZ:c.toNat<256:=c.toNat_lt;have e3:IntKind.i64.wrap (c.toNat:Int)=(c.toNat:Int):=B7 AA;have e4:((c.toNat:Int).tmod (n:Int))=((c.toNat % n:Nat):Int):=by rw[Int.tmod_eq_emod_of_nonneg AA];rfl
   simp only[go_sem,e1];refine Ad AD ?_;simp only[go_sem,k1,e2,qm,qn,f3,not_false_eq_true,e3,e4]
   have qj:TW s (s.set b (.row [SL z t (B4 l),iV ((qc+1:Nat):Int)] 95 0 0)) b:=
    ⟨by simp,fun i hi hb=>by rw[Bk (Ne.symm hb)],⟨z,t,l,qc+1,k1,by omega,h2⟩,qp⟩
   refine⟨_,rfl,⟨rfl,rfl⟩,Bck qj,?_,?_⟩
   .unfold Rt;rw[if_pos AA,hc];rfl
   .unfold Vw;rw[if_pos AA,I9 AE]
def A7t(l:List UInt8)(a n:Nat):(Rt l a n<n\/Rt l a n=0)/\Rt l a n<=255:=by
 unfold Rt
 split
 .rename_i h;have hm:=R5 ((l[a]?).getD 0).toNat (show 0<n by omega);have ja:=Nat.mod_le ((l[a]?).getD 0).toNat n;have:=((l[a]?).getD 0).toNat_lt;omega
 .omega
def Bnd{l:List UInt8}{a:Nat}(n:Nat)(h:a<=l.length):Vw l a n<=l.length:=by
 unfold Vw
 split<;>omega
def Asr{s:St}{b:Nat}(h:TS s b)(n:Nat)(hn:n<=1000000000):∃ (r:Nat) (s':St),Bt TT PT 41 [.ptr b 0 0,iV (n:Int)] s (iV (r:Int)) s'/\TW s s' b/\s'.length=s.length/\(r<n\/r=0)/\r<=255/\∀ z,Bt TT PT 41 [.ptr b 0 0,iV (n:Int)] (s++[z]) (iV (r:Int)) (s'++[z]):=by
 have hb:=Mu h;obtain⟨z,t,l,qc,hs,h1,h2⟩:=h;have hx:=Au8 hs h1 h2 n hn;obtain⟨b1,b2⟩:=A7t l qc n;refine⟨_,_,hx,⟨by simp,fun i hi hb=>by rw[Bk (Ne.symm hb)],⟨z,t,l,_,Bv hb,Bnd n h1,h2⟩,hb⟩,by simp,b1,b2,fun z'=>?_⟩;have:=Au8 (Bs (l:=[z']) hs) h1 h2 n hn;rw[Ab2 _ _ hb]at this;exact this
def Vp{τ:St}{i x t n:Nat}{cs:List V}{e:Env}(h:τ[i]?=some (.row cs t 0 0))(h1:e.get x=.ptr i 0 0)(hn:cs.length=n):Ca e τ [AR.cell x n false]=some (.agg cs):=by
 subst hn;simp only[Ca,Gs,h1,H6,h];simp[Hu]
def Bhg{cs:List V}(h:Df (.agg cs)=true):Cb (.agg cs)=true/\(V.agg cs).refs=[]:=⟨Zv h,Wh h⟩
def Mg(nm:List UInt8):Prop:=B0 nm=true/\nm.length<=4
def Zg(l:List (List UInt8))(hl:(l.all fun x=>B0 x&&decide (x.length<=4))=true){j:Nat}(hj:j<l.length):∃ nm,(l.map fun x=>[V.str x])[j]?=some [.str nm]/\Mg nm:=by
 refine⟨l[j],by rw[Ai,Cd hj];rfl,?_⟩;have:=B6.1 hl l[j] (N9 _);simp only[Ak,decide_eq_true_eq]at this;exact this
def A7u(nm:List UInt8):Fn TT PT 118 [.str nm] (.agg (Xp.row ⟨2,0,nm,true,0,[]⟩)):=by
 refine Bc T118 rfl ?_;simp only[go_sem];exact F5 rfl
def Au9(op:Int)(a c:Xp):Fn TT PT 117 [iV op,.agg a.row,.agg c.row] (.agg (Xp.row ⟨op,0,[],true,1,[a,c]⟩)):=by
 have ha:=D0 a;have hc:=D0 c;refine Bc T117 rfl ?_;rw[Bj ⟨op,0,[],true,1,[a,c]⟩];simp only[A2,Bz];rw[Bj a,Bj c]at *;simp only[go_sem];exact F5 AB
def EB:Nat->Nat
 | 0=>22
 | d+1=>2*EB d+10
def Af7(d:Nat):22<=EB d:=by
 cases d with
 | zero=>exact An _
 | succ d=>
  have:∀ d,22<=EB d:=fun d=>by
   induction d with
   | zero=>exact An _
   | succ d ih=>simp only[EB];omega
  exact this (d+1)
def Ava{d:Nat}(h:d≠0):EB d=2*EB (d - 1)+10:=by
 cases d with
 | zero=>exact absurd rfl h
 | succ d=>rfl
def Avb(op:Int):(Cq op).length<=2:=by
 unfold Cq
 split<;>simp
def RO(z:Bool)(t:Nat)(A:List Tk)(p:Nat):Ob:=.row [SL z t (A.map Tk.row),iV (p:Int)] 80 0 0
def Aeg(z:Bool)(t:Nat)(A:List Tk)(p:Nat):(RO z t A p).refs=[]:=by
 unfold RO SL
 split<;>rfl
structure RdS (s:St) (m:Nat) (z:Bool) (t:Nat) (A:List Tk) (S:Nat->St):Prop where
 low:m<s.length
 eq:∀ p,S p=s.set m (RO z t A p)
 len:∀ p,(S p).length=s.length
 get:∀ (p:Nat) (l:St),(S p++l)[m]?=some (.row [SL z t (A.map Tk.row),iV (p:Int)] 80 0 0)
 get0:∀ (p:Nat),(S p)[m]?=some (.row [SL z t (A.map Tk.row),iV (p:Int)] 80 0 0)
 set:∀ (p q:Nat) (l:St),(S p++l).set m (.row [SL z t (A.map Tk.row),iV (q:Int)] 80 0 0)=S q++l
 set0:∀ (p q:Nat),(S p).set m (.row [SL z t (A.map Tk.row),iV (q:Int)] 80 0 0)=S q
 n0:∀ (p:Nat) (a:Ob) (l:St),(S p++a::l)[s.length]?=some a
 n1:∀ (p:Nat) (a b:Ob) (l:St),(S p++a::b::l)[s.length+1]?=some b
 n2:∀ (p:Nat) (a b c:Ob) (l:St),(S p++a::b::c::l)[s.length+2]?=some c
 u0:∀ (p:Nat) (a x:Ob) (l:St),(S p++a::l).set s.length x=S p++x::l
 u1:∀ (p:Nat) (a b x:Ob) (l:St),(S p++a::b::l).set (s.length+1) x=S p++a::x::l
 u2:∀ (p:Nat) (a b c x:Ob) (l:St),(S p++a::b::c::l).set (s.length+2) x=S p++a::b::x::l
def Dx{s:St}{m:Nat}{z:Bool}{t:Nat}{A:List Tk}{S:Nat->St}(h:RdS s m z t A S):=And.intro h.len (And.intro h.get (And.intro h.get0 (And.intro h.set (And.intro h.set0 (And.intro h.n0 (And.intro h.n1 (And.intro h.n2 (And.intro h.u0 (And.intro h.u1 (h.u2))))))))))
def Avc{s:St}{m:Nat}(z:Bool)(t:Nat)(A:List Tk)(hm:m<s.length):RdS s m z t A (fun p=>s.set m (RO z t A p)):=by
 have hl:∀ p,(s.set m (RO z t A p)).length=s.length:=fun p=>by simp
 have hs:∀ p q,(s.set m (RO z t A p)).set m (RO z t A q)=s.set m (RO z t A q):=fun p q=>by simp_all
 refine⟨hm,fun _=>rfl,hl,fun p l=>?_,fun p=>?_,fun p q l=>?_,fun p q=>hs p q,fun p a l=>?_,fun p a b l=>?_,fun p a b c l=>?_,fun p a x l=>?_,fun p a b x l=>?_,fun p a b c x l=>?_⟩
 .exact Bs (Bv hm)
 .exact Bv hm
 .rw[Ab2 _ _ (by grind)];exact congrArg (·++l) (hs p q)
 .grind
 .grind
 .grind
 .simp_all
 .simp_all
 simp_all
def RT(f:Nat)(av:List V)(s:St)(m:Nat)(z:Bool)(t:Nat)(A:List Tk)(R:V->Nat->Prop):Prop:=∃ v p',Bt TT PT f (.ptr m 0 0::av) s v (s.set m (RO z t A p'))/\p'<=A.length/\R v p'
def L5{z:Bool}{t:Nat}{A:List Tk}{f p m q:Nat}{res:List AR}{thr:Bool}{body:AC}{av:List V}{s:St}{R:V->Nat->Prop}(hT:TT f=some ⟨p,res,thr,body,none⟩)(hl:(V.ptr m 0 0::av).length=p)(hs:s[m]?=some (RO z t A q))
  (h:∀ S,RdS s m z t A S->W TT PT [.c body] (C6 0 (.ptr m 0 0::av)) (S q) (Hd fun e' σ1=>∃ v p' l,Ca e' σ1 res=some v/\(Cb v=true/\v.refs=[])/\σ1=S p'++l/\p'<=A.length/\R v p')):RT f av s m z t A R:=by
 have hm:=(Al.1 hs).1;have h:=h _ (Avc z t A hm);rw[Ot hs]at h;obtain⟨e',σ1,hE,v,p',l,hr,⟨h1,h2⟩,rfl,h3,h4⟩:=h;have qW:(s.set m (RO z t A p')++l).take s.length=s.set m (RO z t A p'):=by rw[Aha AE,I9 AE]
 refine⟨v,p',?_,h3,h4⟩
 have:=Ev.fn hT rfl hl hE hr h1 (by rw[h2];rfl) (fun i ob hi ho=>by
  rw[C3 (by grind)]at ho;by_cases hb:m=i
  .subst hb;rw[Bv hm]at ho;cases ho;exact .inr (by rw[Aeg];rfl)
  grind)
 rw[qW]at this;exact⟨_,hT,rfl,this⟩
def Cf{S:Nat->St}{A:List Tk}{R:V->Nat->Prop}{e:Env}{res:List AR}{v:V}{p:Nat}{l:St}(hr:Ca e (S p++l) res=some v)(hv:Cb v=true/\v.refs=[])(hp:p<=A.length)(hR:R v p):
  ∃ v p' l',Ca e (S p++l) res=some v/\(Cb v=true/\v.refs=[])/\S p++l=S p'++l'/\p'<=A.length/\R v p':=⟨v,p,l,hr,hv,rfl,hp,hR⟩
def Z2{S:Nat->St}{A:List Tk}{R:V->Nat->Prop}{e:Env}{res:List AR}{v:V}{p:Nat}(hr:Ca e (S p) res=some v)(hv:Cb v=true/\v.refs=[])(hp:p<=A.length)(hR:R v p):
  ∃ v p' l',Ca e (S p) res=some v/\(Cb v=true/\v.refs=[])/\S p=S p'++l'/\p'<=A.length/\R v p':=⟨v,p,[],hr,hv,(Bw _).symm,hp,hR⟩
def Pt{s:St}{m:Nat}{z:Bool}{t:Nat}{A:List Tk}{S:Nat->St}(hS:RdS s m z t A S){f p:Nat}{av:List V}{l:St}{R:V->Nat->Prop}(h:(S p++l)[m]?=some (RO z t A p)->RT f av (S p++l) m z t A R):∃ v q,Bt TT PT f (.ptr m 0 0::av) (S p++l) v (S q++l)/\q<=A.length/\R v q:=by
 obtain⟨v,q,h1,h2,h3⟩:=h (hS.get p l);have e:(S p++l).set m (RO z t A q)=S q++l:=hS.set p q l
 grind
def Up{f:Nat}{av:List V}{s:St}{m:Nat}{z:Bool}{t:Nat}{A:List Tk}{w:V}{q:Nat}(h:RT f av s m z t A (fun v p'=>v=w/\p'=q)):Bt TT PT f (.ptr m 0 0::av) s w (s.set m (RO z t A q)):=by
 obtain⟨v,p',h1,-,rfl,rfl⟩:=h;exact h1
def Cj{τ:St}{i x y n t:Nat}{cs:List V}{e:Env}{v:V}(h:τ[i]?=some (.row cs t 0 0))(h1:e.get x=.ptr i 0 0)(hn:cs.length=n)(h2:e.get y=v):Ca e τ [AR.cell x n false,AR.tmp y]=some (.tup [.agg cs,v]):=by
 subst hn h2
 simp_all [Ca,Gs,H6,Hu]
/-! tokens -/
def Ag(A:List Tk)(p:Nat):Tk:=(A[p]?).getD Tk.zero
abbrev tkR (t:Tk):List V:=[iV t.kind,.str t.text,iV t.line]
abbrev Bn (t:Tk):Ob:=.row (tkR t) 129 0 0
def Bhh(w:List UInt8)(A:List Tk)(p:Nat):A1 w (A.drop p)=(((Ag A p).kind==3||(Ag A p).kind==4)&&(Ag A p).text==w):=by
 grind[Ag,List.drop_eq_nil_of_le,A1,Tk.zero,List.drop_eq_getElem_cons]
def Pu(A:List Tk):(A.map Tk.row).length=A.length:=Aj ..
def Akc{A:List Tk}{p:Nat}{x:Tk}(h:A[p]?=some x):(A.map Tk.row)[p]?=some [iV x.kind,.str x.text,iV x.line]:=by rw[Ai,h];rfl
def S0{s:St}{m:Nat}{z:Bool}{t:Nat}{A:List Tk}{p:Nat}(hs:s[m]?=some (RO z t A p))(hA:A.length<=1000000)(hp:p<=A.length):Bt TT PT 66 [.ptr m 0 0] s (.agg (tkR (Ag A p))) s:=by
 suffices h:RT 66 [] s m z t A (fun v p'=>v=.agg (tkR (Ag A p))/\p'=p) by
  have:=Up h;rw[Ot hs]at this;exact this
 refine L5 T66 rfl hs fun S hS=>?_
 have Zq:=Dx hS;obtain⟨-,-,qd,get,get0,set,set0,n0,n1,n2,u0,u1,u2⟩:=hS;unfold Ag;by_cases h:A.length<=p
 .have g:((A.length:Int)<=(p:Int))=True:=eq_true AA;have e:A[p]?=none:=by simpa using h
  simp only[go_sem,Zq,LZ];refine Ad AD ?_;simp only[go_sem,Zq,LZ,Pu,ge_iff_le,g];refine Cf (v:=.agg [iV 0,.str [],iV 0]) (Vp (n0 _ _ _) rfl rfl) ⟨rfl,rfl⟩ hp ⟨?_,rfl⟩;rw[e];rfl
 .have g:((A.length:Int)<=(p:Int))=False:=eq_false AA;obtain⟨x,hx⟩:∃ x,A[p]?=some x:=⟨_,Cd AA⟩;have qt:=Akc hx;simp only[go_sem,Zq,LZ];refine Ad AD ?_;simp only[go_sem,Zq,LZ,Pu,ge_iff_le,g];refine Ad AD ?_;simp only[go_sem,Zq,LZ,Pu,qt];refine Be ?_;simp only[go_sem,Zq,LZ];refine Cf (v:=.agg [iV x.kind,.str x.text,iV x.line]) (Vp (n0 _ _ _) rfl rfl) ⟨rfl,rfl⟩ hp ⟨?_,rfl⟩
  grind
def Amg{s:St}{m:Nat}{z:Bool}{t:Nat}{A:List Tk}{p:Nat}(hs:s[m]?=some (RO z t A p))(hA:A.length<=1000000)(hp:p<=A.length)(w:List UInt8):Bt TT PT 69 [.ptr m 0 0,.str w] s (.bool (A1 w (A.drop p))) s:=by
 suffices h:RT 69 [.str w] s m z t A (fun v p'=>v=.bool (A1 w (A.drop p))/\p'=p) by
  have:=Up h;rw[Ot hs]at this;exact this
 refine L5 T69 rfl hs fun S hS=>?_
 have hn:=S0 (hS.get0 p) hA hp;have Zq:=Dx hS;obtain⟨-,-,qd,get,get0,set,set0,n0,n1,n2,u0,u1,u2⟩:=hS;rw[Bhh];generalize Ag A p=x at hn;obtain⟨k,tx,ln⟩:=x;simp only at hn ⊢;simp only[go_sem,Zq,LZ];refine Aa hn ?_;simp only[go_sem,Zq,LZ]
 cases h3:(k==3)<;>cases h4:(k==4)<;>cases hw:(tx==w)
 all_goals
  simp only[go_sem,Zq,LZ,h3,h4,hw];exact Cf rfl ⟨rfl,rfl⟩ hp ⟨rfl,rfl⟩
def Ek{A:List Tk}{p:Nat}:A.drop (p+1)=(A.drop p).tail:=by simp_all
def Eg{w:List UInt8}{A:List Tk}{p:Nat}(h:A1 w (A.drop p)=true):p<A.length:=by
 rcases Bb p A.length with h' | h'
 .exact h'
 .rw[Dt h']at h;cases h
def Td{s:St}{m:Nat}{z:Bool}{t:Nat}{A:List Tk}{p:Nat}(hs:s[m]?=some (RO z t A p))(hA:A.length<=1000000){w:List UInt8}(h:A1 w (A.drop p)=true):Bt TT PT 110 [.ptr m 0 0,.str w] s (.bool true) (s.set m (RO z t A (p+1))):=by
 have qg:=Eg h;refine Up (A:=A) (z:=z) (t:=t) (L5 T110 rfl hs fun S hS=>?_);have ha:=Amg (hS.get0 p) hA AA w;rw[h]at ha;have qq:=Ay (show p<9223372036854775807 by omega);have Zq:=Dx hS;obtain⟨-,-,qd,get,get0,set,set0,n0,n1,n2,u0,u1,u2⟩:=hS;simp only[go_sem,Zq,LZ];refine Aa ha ?_;simp only[go_sem,Zq,LZ,qq];exact Z2 rfl ⟨rfl,rfl⟩ AA ⟨rfl,rfl⟩
def Te{s:St}{m:Nat}{z:Bool}{t:Nat}{A:List Tk}{p:Nat}(hs:s[m]?=some (RO z t A p))(hA:A.length<=1000000)(hp:p<=A.length){w:List UInt8}(h:A1 w (A.drop p)=false):Bt TT PT 110 [.ptr m 0 0,.str w] s (.bool false) s:=by
 suffices h:Bt TT PT 110 [.ptr m 0 0,.str w] s (.bool false) (s.set m (RO z t A p)) by
  rw[Ot hs]at h;exact h
 refine Up (A:=A) (z:=z) (t:=t) (L5 T110 rfl hs fun S hS=>?_);have ha:=Amg (hS.get0 p) hA hp w;rw[h]at ha;have Zq:=Dx hS;obtain⟨-,-,qd,get,get0,set,set0,n0,n1,n2,u0,u1,u2⟩:=hS;simp only[go_sem,Zq,LZ];refine Aa ha ?_;simp only[go_sem,Zq,LZ];exact Z2 rfl ⟨rfl,rfl⟩ hp ⟨rfl,rfl⟩
/-! the same, in the states of a reader's function -/
def Lu{s:St}{m:Nat}{z:Bool}{t:Nat}{A:List Tk}{S:Nat->St}(hS:RdS s m z t A S){p:Nat}(l:St)(hA:A.length<=1000000){w:List UInt8}(h:A1 w (A.drop p)=true):Bt TT PT 110 [.ptr m 0 0,.str w] (S p++l) (.bool true) (S (p+1)++l):=by
 have:=Td (hS.get p l) hA h;rw[show(S p++l).set m (RO z t A (p+1))=S (p+1)++l from hS.set p (p+1) l]at this;exact this
def J8{s:St}{m:Nat}{z:Bool}{t:Nat}{A:List Tk}{S:Nat->St}(hS:RdS s m z t A S){p:Nat}(l:St)(hA:A.length<=1000000)(hp:p<=A.length){w:List UInt8}(h:A1 w (A.drop p)=false):Bt TT PT 110 [.ptr m 0 0,.str w] (S p++l) (.bool false) (S p++l):=Te (hS.get p l) hA hp h
theorem Ms{A:List Tk}{p:Nat}(h:p<A.length):A.drop p=Ag A p::A.drop (p+1):=by
 grind[Ag,List.drop_eq_getElem_cons]
def Lf{A:List Tk}{p:Nat}(h:A.length<=p):A.drop p=[]/\Ag A p=Tk.zero:=by
 unfold Ag
 simp_all
def Aeh{A:List Tk}{p:Nat}(h:(Ag A p).kind≠0):p<A.length:=by
 rcases Bb p A.length with h' | h'
 .exact h'
 .rw[(Lf h').2]at h;exact absurd rfl h
def Xu{s:St}{m:Nat}{z:Bool}{t:Nat}{A:List Tk}{p:Nat}(hs:s[m]?=some (RO z t A p))(hA:A.length<=1000000)(hp:p<=A.length):
  (∀ w r,Dh (A.drop p)=some (w,r)->Bt TT PT 107 [.ptr m 0 0] s (.tup [.str w,.bool true]) (s.set m (RO z t A (p+1)))/\p<A.length/\A.drop (p+1)=r)/\(Dh (A.drop p)=none->Bt TT PT 107 [.ptr m 0 0] s (.tup [.str [],.bool false]) s):=by
 have hk:∀ b:Bool,((Ag A p).kind==1)=b->Bt TT PT 107 [.ptr m 0 0] s (.tup [.str (if b then(Ag A p).text else []),.bool b]) (s.set m (RO z t A (if b then p+1 else p))):=fun b hb=>by
  have qg:b=true->p<A.length:=fun h=>Aeh (by grind)
  refine Up (A:=A) (z:=z) (t:=t) (L5 T107 rfl hs fun S hS=>?_);have hn:=S0 (hS.get0 p) hA hp;have qk:((Ag A p).kind != 1)=!b:=by rw[bne,hb]
  have Zq:=Dx hS;obtain⟨-,-,qd,get,get0,set,set0,n0,n1,n2,u0,u1,u2⟩:=hS;cases b
  .simp only[go_sem,Zq,LZ];refine Aa hn ?_;simp only[go_sem,Zq,LZ,qk,Bd,Ba];exact Cf rfl ⟨rfl,rfl⟩ hp ⟨rfl,rfl⟩
  .have qq:=Ay (show p<9223372036854775807 by omega);simp only[go_sem,Zq,LZ];refine Aa hn ?_;simp only[go_sem,Zq,LZ,qk,qq,Bd,Ba];exact Cf rfl ⟨rfl,rfl⟩ (qg rfl) ⟨rfl,rfl⟩
 refine⟨fun w r h=>?_,fun h=>?_⟩
 .have qg:p<A.length:=by
   rcases Bb p A.length with h' | h'
   .exact h'
   .rw[(Lf h').1]at h;cases h
  rw[Ms qg]at h;simp only[Dh]at h
  grind
 .have hb:((Ag A p).kind==1)=false:=by
   rcases Bb p A.length with h' | h'
   .grind[Ms,Dh]
   .rw[(Lf h').2];rfl
  have:=hk false hb;simp only[Hj,if_false]at this;rw[Ot hs]at this;exact this
def Afb{s:St}{m:Nat}{z:Bool}{t:Nat}{A:List Tk}{p:Nat}(hs:s[m]?=some (RO z t A p))(hA:A.length<=1000000)(hp:p<=A.length)(hN:∀ t∈A,t.kind=2->Lib.parseIntB 64 t.text=.ok (K1 t.text)/\t.text.length<=4096):
  (∀ w r,Ic (A.drop p)=some (w,r)->Bt TT PT 151 [.ptr m 0 0] s (.tup [iV w,.bool true]) (s.set m (RO z t A (p+1)))/\p<A.length/\A.drop (p+1)=r)/\(Ic (A.drop p)=none->Bt TT PT 151 [.ptr m 0 0] s (.tup [iV 0,.bool false]) s):=by
 have hk:∀ b:Bool,((Ag A p).kind==2)=b->Bt TT PT 151 [.ptr m 0 0] s (.tup [iV (if b then K1 (Ag A p).text else 0),.bool b]) (s.set m (RO z t A (if b then p+1 else p))):=fun b hb=>by
  have qg:b=true->p<A.length:=fun h=>Aeh (by grind)
  refine Up (A:=A) (z:=z) (t:=t) (L5 T151 rfl hs fun S hS=>?_);have hn:=S0 (hS.get0 p) hA hp;have qk:((Ag A p).kind != 2)=!b:=by rw[bne,hb]
  have Zq:=Dx hS;obtain⟨-,-,qd,get,get0,set,set0,n0,n1,n2,u0,u1,u2⟩:=hS;cases b
  .simp only[go_sem,Zq,LZ];refine Aa hn ?_;simp only[go_sem,Zq,LZ,qk,Bd,Ba];exact Cf rfl ⟨rfl,rfl⟩ hp ⟨rfl,rfl⟩
  .have qq:=Ay (show p<9223372036854775807 by omega)
   have qA:Ag A p∈A:=by
    have h:=qg rfl;unfold Ag;rw[Cd h];exact N9 h
   obtain⟨hv,hl⟩:=hN _ qA (by grind)
   have q:Yb [.str (Ag A p).text,iV 10,iV 64]=some (.tup [iV (K1 (Ag A p).text),.nili]):=by
    simp only[Yb];rw[if_pos AA,hv]
   simp only[go_sem,Zq,LZ];refine Aa hn ?_;simp only[go_sem,Zq,LZ,qk,Bd,Ba];refine Fu P181 AB q ?_;simp only[go_sem,Zq,LZ,qq];exact Cf rfl ⟨rfl,rfl⟩ (qg rfl) ⟨rfl,rfl⟩
 refine⟨fun w r h=>?_,fun h=>?_⟩
 .have qg:p<A.length:=by
   rcases Bb p A.length with h' | h'
   .exact h'
   .rw[(Lf h').1]at h;cases h
  rw[Ms qg]at h;simp only[Ic]at h
  grind
 .have hb:((Ag A p).kind==2)=false:=by
   rcases Bb p A.length with h' | h'
   .grind[Ms,Ic]
   .rw[(Lf h').2];rfl
  have:=hk false hb;simp only[Hj,if_false]at this;rw[Ot hs]at this;exact this
/-! operators -/
def A7v:(opTab.all fun p=>match (Ld (Nv TT PT 300) af250 [.str p.1] []).bind fun q=>D8 q.2 q.1 with
  | some (.tup [.int .i64 a,.int .i64 b])=>a==(Jy p.1).1&&b==(Jy p.1).2
  | _=>false)=true:=by kernel_rfl
def Bhi(w:List UInt8):Fn TT PT 250 [.str w] (.tup [iV (Jy w).1,iV (Jy w).2]):=by
 by_cases hm:∃ p∈opTab,p.1=w
 .obtain⟨p,hp,rfl⟩:=hm;have hr:=B6.1 A7v p hp
  split at hr
  .rename_i a b hv;simp only[Ak,beq_iff_eq]at hr;rw[<-hr.1,<-hr.2];exact Qz Ro T250 rfl rfl hv
  .cases hr
 .have qk:∀ p∈opTab,(w==p.1)=false:=fun p hp=>by
   grind
  have h0:Jy w=(0,0):=by
   unfold Jy
   have:opTab.lookup w=none:=by
    rw[List.lookup_eq_none_iff];exact fun p hp=>by grind
   rw[this];rfl
  rw[h0];simp only[opTab,Bo,Of,or_false,forall_eq_or_imp,forall_eq]at qk;obtain⟨a1,a2,a3,a4,a5,a6,a7,a8,a9,qM,qN,qO,qP⟩:=qk;refine Bc T250 rfl ?_;simp only[go_sem,a1,a2,a3,a4,a5,a6,a7,a8,a9,qM,qN,qO,qP];exact Fp rfl
def Bcl{s:St}{m:Nat}{z:Bool}{t:Nat}{A:List Tk}{p:Nat}(hs:s[m]?=some (RO z t A p))(hA:A.length<=1000000)(hp:p<=A.length)(qa:Nat):Bt TT PT 244 [.ptr m 0 0,iV (qa:Int)] s (iV (I6 qa (A.drop p))) s:=by
 suffices h:Bt TT PT 244 [.ptr m 0 0,iV (qa:Int)] s (iV (I6 qa (A.drop p))) (s.set m (RO z t A p)) by
  rw[Ot hs]at h;exact h
 have ho:I6 qa (A.drop p)=if(Ag A p).kind=4 then(if(Jy (Ag A p).text).2=(qa:Int) then(Jy (Ag A p).text).1 else 0) else 0:=by
  rcases Bb p A.length with h' | h'
  .rw[Ms h'];rfl
  .rw[(Lf h').1,(Lf h').2];rfl
 rw[ho];refine Up (A:=A) (z:=z) (t:=t) (L5 T244 rfl hs fun S hS=>?_);have hn:=S0 (hS.get0 p) hA hp;have hb:=Bhi (Ag A p).text;generalize Jy (Ag A p).text=o at hb ⊢;obtain⟨o1,o2⟩:=o;simp only at hb ⊢;have Zq:=Dx hS;obtain⟨-,-,qd,get,get0,set,set0,n0,n1,n2,u0,u1,u2⟩:=hS;by_cases h4:(Ag A p).kind=4
 .have g4:((Ag A p).kind != 4)=false:=by simp[h4]
  rw[if_pos h4];by_cases hl:o2=(qa:Int)
  .have gl:(o2 != (qa:Int))=false:=by simp[hl]
   rw[if_pos hl];simp only[go_sem,Zq,LZ];refine Aa hn ?_;simp only[go_sem,Zq,LZ,g4];refine Ab hb AB ?_;simp only[go_sem,Zq,LZ,gl];exact Cf rfl ⟨rfl,rfl⟩ hp ⟨rfl,rfl⟩
  .have gl:(o2 != (qa:Int))=true:=by simp[hl]
   rw[if_neg hl];simp only[go_sem,Zq,LZ];refine Aa hn ?_;simp only[go_sem,Zq,LZ,g4];refine Ab hb AB ?_;simp only[go_sem,Zq,LZ,gl];exact Cf rfl ⟨rfl,rfl⟩ hp ⟨rfl,rfl⟩
 .have g4:((Ag A p).kind != 4)=true:=by simp[h4]
  rw[if_neg h4];simp only[go_sem,Zq,LZ];refine Aa hn ?_;simp only[go_sem,Zq,LZ,g4];exact Cf rfl ⟨rfl,rfl⟩ hp ⟨rfl,rfl⟩
def Xv:∀ n,(∀ qa ts x r,pe n qa ts=some (x,r)->r.length<ts.length)/\(∀ qa x0 ts x r,lp n qa x0 ts=some (x,r)->r.length<=ts.length) /\
  (∀ ts x r,pu n ts=some (x,r)->r.length<ts.length)/\(∀ ts x r,pp n ts=some (x,r)->r.length<ts.length)
 | 0=>⟨fun _ _ _ _ h=>by grind[pe],fun _ _ _ _ _ h=>by grind[lp],fun _ _ _ h=>by grind[pu],fun _ _ _ h=>by grind[pp]⟩
 | n+1=>by
  obtain⟨jd,je,jf,jg⟩:=Xv n;refine⟨fun qa ts x r h=>?_,fun qa x0 ts x r h=>?_,fun ts x r h=>?_,fun ts x r h=>?_⟩
  .grind[pe]
  .rw[lp]at h
   grind
  .grind[pu]
  .cases ts with
   | nil=>grind[pp]
   | cons t ts=>
    grind[pp]
structure OkA (A:List Tk):Prop where
 len:A.length<=4096
 num:∀ t∈A,t.kind=2->Lib.parseIntB 64 t.text=.ok (K1 t.text)/\t.text.length<=4096
def PR(A:List Tk)(o:Option (Xp × List Tk))(v:V)(p':Nat):Prop:=match o with
 | some (x,r)=>v=.tup [.agg x.row,.bool true]/\A.drop p'=r
 | none=>v=.tup [.agg zX,.bool false]
def PE(n:Nat):Prop:=∀ (qa:Nat) (s:St) (m:Nat) (z:Bool) (t:Nat) (A:List Tk) (p:Nat),OkA A->s[m]?=some (RO z t A p)->p<=A.length->1<=qa->qa<=6->8*(A.length - p)+7<=n+qa ->
 RT 231 [iV (qa:Int)] s m z t A (PR A (pe n qa (A.drop p)))
def PU(n:Nat):Prop:=∀ (s:St) (m:Nat) (z:Bool) (t:Nat) (A:List Tk) (p:Nat),OkA A->s[m]?=some (RO z t A p)->p<=A.length->8*(A.length - p)<=n->RT 243 [] s m z t A (PR A (pu n (A.drop p)))
def PP(n:Nat):Prop:=∀ (s:St) (m:Nat) (z:Bool) (t:Nat) (A:List Tk) (p:Nat),OkA A->s[m]?=some (RO z t A p)->p<=A.length->8*(A.length - p)<=n+1->RT 249 [] s m z t A (PR A (pp n (A.drop p)))
def Cx{cs:List V}{b:Bool}(h:Df (.agg cs)=true):Cb (.tup [.agg cs,.bool b])=true/\(V.tup [.agg cs,.bool b]).refs=[]:=by
 have h1:=Zv h;have h2:=Wh h;have qR:cs.all V.cellB=true:=h1;have qS:Ah cs=[]:=h2;refine⟨?_,?_⟩
 .show((cs.all V.cellB)&&_)=true;rw[qR];rfl
 .show Ah cs++_=[];rw[qS];rfl
def Uk{n:Nat}(h:PE n){s:St}{m:Nat}{z:Bool}{t:Nat}{A:List Tk}{p:Nat}(hA:OkA A)(hs:s[m]?=some (RO z t A p))(hp:p<=A.length)(hb:8*(A.length - p)+6<=n):RT 205 [] s m z t A (PR A (pe n 1 (A.drop p))):=by
 refine L5 T205 rfl hs fun S hS=>?_
 obtain⟨v,q,h1,h2,h3⟩:=Pt hS (l:=[zY]) fun hs=>h 1 _ m z t A p hA hs hp AA AA AA
 have hm:=hS.low;have Zq:=Dx hS;obtain⟨-,-,qd,get,get0,set,set0,n0,n1,n2,u0,u1,u2⟩:=hS;rw[Int.natCast_one]at h1;simp only[go_sem,Zq,LZ];unfold PR at h3 ⊢
 split at h3
 .rename_i x r ho;obtain⟨rfl,h3⟩:=h3;have hx:=D0 x;have hr:=Bj x;rw[hr]at h1 hx ⊢;refine Aa h1 ?_;simp only[go_sem,Zq,LZ];exact Cf (v:=.tup [.agg _,.bool true]) (Cj (n0 _ _ _) rfl rfl rfl) (Cx hx) h2 ⟨rfl,h3⟩
 .subst h3;refine Aa h1 ?_;simp only[go_sem,Zq,LZ];exact Cf (v:=.tup [.agg _,.bool false]) (Cj (n0 _ _ _) rfl rfl rfl) (Cx rfl) h2 rfl
def Agv{s:St}{m:Nat}{z:Bool}{t:Nat}{A:List Tk}{S:Nat->St}(hS:RdS s m z t A S){p:Nat}(l:St)(hl:A.length<=1000000)(hp:p<=A.length){w:List UInt8}{r:List Tk}(h:Dh (A.drop p)=some (w,r)):Bt TT PT 107 [.ptr m 0 0] (S p++l) (.tup [.str w,.bool true]) (S (p+1)++l)/\p<A.length/\A.drop (p+1)=r:=by
 obtain⟨h1,h2⟩:=(Xu (hS.get p l) hl hp).1 w r h;rw[show(S p++l).set m (RO z t A (p+1))=S (p+1)++l from hS.set p (p+1) l]at h1
 grind
def Abk{s:St}{m:Nat}{z:Bool}{t:Nat}{A:List Tk}{S:Nat->St}(hS:RdS s m z t A S){p:Nat}(l:St)(hl:A.length<=1000000)(hp:p<=A.length)(h:Dh (A.drop p)=none):Bt TT PT 107 [.ptr m 0 0] (S p++l) (.tup [.str [],.bool false]) (S p++l):=(Xu (hS.get p l) hl hp).2 h
def Bne{s:St}{m:Nat}{z:Bool}{t:Nat}{A:List Tk}{S:Nat->St}(hS:RdS s m z t A S){p:Nat}(l:St)(hA:OkA A)(hp:p<=A.length){w:Int}{r:List Tk}(h:Ic (A.drop p)=some (w,r)):Bt TT PT 151 [.ptr m 0 0] (S p++l) (.tup [iV w,.bool true]) (S (p+1)++l)/\p<A.length/\A.drop (p+1)=r:=by
 obtain⟨h1,h2⟩:=(Afb (hS.get p l) (by have:=hA.len;omega) hp hA.num).1 w r h;rw[show(S p++l).set m (RO z t A (p+1))=S (p+1)++l from hS.set p (p+1) l]at h1
 grind
def Ayr{s:St}{m:Nat}{z:Bool}{t:Nat}{A:List Tk}{S:Nat->St}(hS:RdS s m z t A S){p:Nat}(l:St)(hA:OkA A)(hp:p<=A.length)(h:Ic (A.drop p)=none):Bt TT PT 151 [.ptr m 0 0] (S p++l) (.tup [iV 0,.bool false]) (S p++l):=(Afb (hS.get p l) (by have:=hA.len;omega) hp hA.num).2 h
theorem Bcm{n:Nat}(hE:∀ k,k<n->PE k):PP n:=by
 intro s m z t A p hA hs hp hb;refine L5 T249 rfl hs fun S hS=>?_
 have hl:A.length<=1000000:=by have:=hA.len;omega
 have qb:=hS;have hm:=hS.low;have Zq:=Dx hS;obtain⟨-,-,qd,get,get0,set,set0,n0,n1,n2,u0,u1,u2⟩:=hS;rcases Bb p A.length with qg | qU
 .obtain⟨k,rfl⟩:∃ k,n=k+1:=⟨n - 1,by omega⟩;have hd:=Ms qg;by_cases h2:(Ag A p).kind=2
  .have hq:Ic (A.drop p)=some (K1 (Ag A p).text,A.drop (p+1)):=by rw[hd];simp only[Ic];rw[if_pos h2]
   obtain⟨c1,-,-⟩:=Bne qb [zY] hA hp hq;have ho:pp (k+1) (A.drop p)=some (⟨1,K1 (Ag A p).text,[],true,0,[]⟩,A.drop (p+1)):=by rw[hd,pp,if_pos h2]
   rw[ho];simp only[go_sem,Zq,LZ];refine Aa c1 ?_;simp only[go_sem,Zq,LZ];exact Cf (v:=.tup [.agg _,.bool true]) (Cj (n0 _ _ _) rfl rfl rfl) (Cx rfl) qg ⟨rfl,rfl⟩
  .have hq:Ic (A.drop p)=none:=by rw[hd];simp only[Ic];rw[if_neg h2]
   have c1:=Ayr qb [zY] hA hp hq;by_cases h1:(Ag A p).kind=1
   .have hn:Dh (A.drop p)=some ((Ag A p).text,A.drop (p+1)):=by rw[hd];simp only[Dh];rw[if_pos h1]
    obtain⟨c2,-,-⟩:=Agv qb [zY] hl hp hn;by_cases qo:A1 [91] (A.drop (p+1))=true
    .have c3:=Lu qb [zY] hl qo;have qs:=Eg qo;obtain⟨v,q,c4,qe,h3⟩:=Pt qb (l:=[zY]) fun hs=>Uk (hE k AA) (p:=p+1+1) hA hs AA AA
     have ho:pp (k+1) (A.drop p)=match pe k 1 (A.drop (p+1+1)) with
       | none=>none
       | some (x,r)=>if A1 [93] r then some (⟨3,0,(Ag A p).text,true,1,[x]⟩,r.tail) else none:=by
      rw[hd,pp,if_neg h2,if_pos h1,if_pos qo,<-Ek];rfl
     rw[ho];simp only[go_sem,Zq,LZ];refine Aa c1 ?_;simp only[go_sem,Zq,LZ];refine Aa c2 ?_;simp only[go_sem,Zq,LZ];refine Aa c3 ?_;simp only[go_sem,Zq,LZ];unfold PR at h3
     split at h3
     .rename_i x r hx;obtain⟨rfl,h3⟩:=h3;have qf:=D0 x;have hr:=Bj x;rw[hr]at c4 qf;rw[hx];simp only;refine Aa c4 ?_;by_cases qi:A1 [93] r=true
      .rw[<-h3]at qi;have c5:=Lu qb [zY,xO x] hl qi;rw[<-h3,if_pos qi];simp only[go_sem,Zq,LZ];refine Aa c5 ?_;simp only[go_sem,Zq,LZ];exact Cf (v:=.tup [.agg _,.bool true]) (Cj (n0 _ _ _) rfl rfl rfl) (Cx AB) (Eg qi) ⟨by rw[Bj ⟨3,0,_,_,_,_⟩];simp only[A2,Bz,hr];rfl,Ek⟩
      .have qi:A1 [93] (A.drop q)=false:=by rw[h3];simpa using qi
       have c5:=J8 qb [zY,xO x] hl qe qi;rw[<-h3,if_neg (by grind)];simp only[go_sem,Zq,LZ];refine Aa c5 ?_;simp only[go_sem,Zq,LZ];exact Cf (v:=.tup [.agg _,.bool false]) (Cj (n0 _ _ _) rfl rfl rfl) (Cx rfl) qe rfl
     .rename_i hx;subst h3;rw[hx];simp only;refine Aa c4 ?_;simp only[go_sem,Zq,LZ];exact Cf (v:=.tup [.agg _,.bool false]) (Cj (n0 _ _ _) rfl rfl rfl) (Cx rfl) qe rfl
    .have qo:A1 [91] (A.drop (p+1))=false:=by simpa using qo
     have c3:=J8 qb [zY] hl (Ir qg) qo;have ho:pp (k+1) (A.drop p)=some (⟨2,0,(Ag A p).text,true,0,[]⟩,A.drop (p+1)):=by rw[hd,pp,if_neg h2,if_pos h1,if_neg AA]
     rw[ho];simp only[go_sem,Zq,LZ];refine Aa c1 ?_;simp only[go_sem,Zq,LZ];refine Aa c2 ?_;simp only[go_sem,Zq,LZ];refine Aa c3 ?_;simp only[go_sem,Zq,LZ];exact Cf (v:=.tup [.agg _,.bool true]) (Cj (n0 _ _ _) rfl rfl rfl) (Cx rfl) qg ⟨rfl,rfl⟩
   .have hn:Dh (A.drop p)=none:=by rw[hd];simp only[Dh];rw[if_neg h1]
    have c2:=Abk qb [zY] hl hp hn;by_cases ql:A1 [40] (A.drop p)=true
    .have c3:=Lu qb [zY] hl ql;obtain⟨v,q,c4,qe,h3⟩:=Pt qb (l:=[zY]) fun hs=>Uk (hE k AA) (p:=p+1) hA hs AA AA
     have ho:pp (k+1) (A.drop p)=match pe k 1 (A.drop (p+1)) with
       | none=>none
       | some (x,r)=>if A1 [41] r then some (x,r.tail) else none:=by
      rw[hd]at ql ⊢;rw[pp,if_neg h2,if_neg h1,if_pos ql];rfl
     rw[ho];simp only[go_sem,Zq,LZ];refine Aa c1 ?_;simp only[go_sem,Zq,LZ];refine Aa c2 ?_;simp only[go_sem,Zq,LZ];refine Aa c3 ?_;simp only[go_sem,Zq,LZ];unfold PR at h3
     split at h3
     .rename_i x r hx;obtain⟨rfl,h3⟩:=h3;have qf:=D0 x;have hr:=Bj x;rw[hr]at c4 qf;rw[hx];simp only;refine Aa c4 ?_;by_cases qi:A1 [41] r=true
      .rw[<-h3]at qi;have c5:=Lu qb [zY,xO x] hl qi;rw[<-h3,if_pos qi];simp only[go_sem,Zq,LZ];refine Aa c5 ?_;simp only[go_sem,Zq,LZ];exact Cf (v:=.tup [.agg _,.bool true]) (Cj (n0 _ _ _) rfl rfl rfl) (Cx qf) (Eg qi) ⟨by rw[hr],Ek⟩
      .have qi:A1 [41] (A.drop q)=false:=by rw[h3];simpa using qi
       have c5:=J8 qb [zY,xO x] hl qe qi;rw[<-h3,if_neg (by grind)];simp only[go_sem,Zq,LZ];refine Aa c5 ?_;simp only[go_sem,Zq,LZ];exact Cf (v:=.tup [.agg _,.bool false]) (Cj (n0 _ _ _) rfl rfl rfl) (Cx rfl) qe rfl
     .rename_i hx;subst h3;rw[hx];simp only;refine Aa c4 ?_;simp only[go_sem,Zq,LZ];exact Cf (v:=.tup [.agg _,.bool false]) (Cj (n0 _ _ _) rfl rfl rfl) (Cx rfl) qe rfl
    .have ql:A1 [40] (A.drop p)=false:=by simpa using ql
     have c3:=J8 qb [zY] hl hp ql
     have ho:pp (k+1) (A.drop p)=none:=by
      rw[hd]at ql ⊢;rw[pp,if_neg h2,if_neg h1,if_neg (by grind)]
     rw[ho];simp only[go_sem,Zq,LZ];refine Aa c1 ?_;simp only[go_sem,Zq,LZ];refine Aa c2 ?_;simp only[go_sem,Zq,LZ];refine Aa c3 ?_;simp only[go_sem,Zq,LZ];exact Cf (v:=.tup [.agg _,.bool false]) (Cj (n0 _ _ _) rfl rfl rfl) (Cx rfl) hp rfl
 .have hd:=(Lf qU).1
  have ho:pp n (A.drop p)=none:=by
   rw[hd]
   cases n<;>simp[pp]
  rw[ho];have c1:=Ayr qb [zY] hA hp (by rw[hd];rfl);have c2:=Abk qb [zY] hl hp (by rw[hd];rfl);have c3:=J8 qb [zY] hl hp (w:=[40]) (by rw[hd];rfl);simp only[go_sem,Zq,LZ];refine Aa c1 ?_;simp only[go_sem,Zq,LZ];refine Aa c2 ?_;simp only[go_sem,Zq,LZ];refine Aa c3 ?_;simp only[go_sem,Zq,LZ];exact Cf (v:=.tup [.agg _,.bool false]) (Cj (n0 _ _ _) rfl rfl rfl) (Cx rfl) hp rfl
theorem Bcn{n:Nat}(hU:∀ k,k<n->PU k)(hP:∀ k,k<=n->PP k):PU n:=by
 intro s m z t A p hA hs hp hb;refine L5 T243 rfl hs fun S hS=>?_
 have hl:A.length<=1000000:=by have:=hA.len;omega
 have qb:=hS;have hm:=hS.low;have Zq:=Dx hS;obtain⟨-,-,qd,get,get0,set,set0,n0,n1,n2,u0,u1,u2⟩:=hS
 have prim:∀ k,8*(A.length - p)<=k+1->k<=n->A1 [45] (A.drop p)=false->A1 [33] (A.drop p)=false->pu n (A.drop p)=pp k (A.drop p)->W TT PT [.c b243.body] (C6 0 [.ptr m 0 0]) (S p) (Hd fun e' σ1=>∃ v p' l,Ca e' σ1 [.cell 2 4 false,.tmp 3]=some v/\(Cb v=true/\v.refs=[])/\σ1=S p'++l/\p'<=A.length/\PR A (pu n (A.drop p)) v p'):=by
  intro k hk qx h4 h5 ho;have qu:=J8 qb [zY] hl hp h4;have qQ:=J8 qb [zY] hl hp h5;obtain⟨v,q,c4,qe,h3⟩:=Pt qb (l:=[zY]) fun hs=>hP k qx _ m z t A p hA hs hp hk
  rw[ho];unfold b243 tX;simp only[go_sem,Zq,LZ];refine Aa qu ?_;simp only[go_sem,Zq,LZ];refine Aa qQ ?_;simp only[go_sem,Zq,LZ];unfold PR at h3 ⊢
  split at h3
  .rename_i x r hx;obtain⟨rfl,h3⟩:=h3;have qf:=D0 x;have hr:=Bj x;rw[hr]at c4 qf;rw[hr];refine Aa c4 ?_;simp only[go_sem,Zq,LZ];exact Cf (v:=.tup [.agg _,.bool true]) (Cj (n0 _ _ _) rfl rfl rfl) (Cx qf) qe ⟨rfl,h3⟩
  .rename_i hx;subst h3;refine Aa c4 ?_;simp only[go_sem,Zq,LZ];exact Cf (v:=.tup [.agg _,.bool false]) (Cj (n0 _ _ _) rfl rfl rfl) (Cx rfl) qe rfl
 rcases n with _ | k
 .have hd:=(Lf (A:=A) (p:=p) AA).1;refine prim 0 AA (An _) (by rw[hd];rfl) (by rw[hd];rfl) ?_
  grind[pu,pp]
 .by_cases h4:A1 [45] (A.drop p)=true
  .have qg:=Eg h4;have cA:=Lu qb [zY] hl h4;obtain⟨v,q,c4,qe,h3⟩:=Pt qb (l:=[zY]) fun hs=>hU k AA _ m z t A (p+1) hA hs AA AA
   have ho:pu (k+1) (A.drop p)=match pu k (A.drop (p+1)) with
     | none=>none
     | some (x,r)=>some (Rq 4 x,r):=by
    rw[pu,if_pos h4,<-Ek];rfl
   rw[ho];simp only[go_sem,Zq,LZ];refine Aa cA ?_;simp only[go_sem,Zq,LZ];unfold PR at h3
   split at h3
   .rename_i x r hx;obtain⟨rfl,h3⟩:=h3;have qf:=D0 x;have hr:=Bj x;rw[hr]at c4 qf;rw[hx];simp only;refine Aa c4 ?_;simp only[go_sem,Zq,LZ];exact Cf (v:=.tup [.agg _,.bool true]) (Cj (n0 _ _ _) rfl rfl rfl) (Cx AB) qe ⟨by unfold Rq;rw[Bj ⟨4,0,_,_,_,_⟩];simp only[A2,Bz,hr];rfl,h3⟩
   .rename_i hx;subst h3;rw[hx];simp only;refine Aa c4 ?_;simp only[go_sem,Zq,LZ];exact Cf (v:=.tup [.agg _,.bool false]) (Cj (n0 _ _ _) rfl rfl rfl) (Cx rfl) qe rfl
  .have h4:A1 [45] (A.drop p)=false:=by simpa using h4
   have qu:=J8 qb [zY] hl hp h4;by_cases h5:A1 [33] (A.drop p)=true
   .have qg:=Eg h5;have cA:=Lu qb [zY] hl h5;obtain⟨v,q,c4,qe,h3⟩:=Pt qb (l:=[zY]) fun hs=>hU k AA _ m z t A (p+1) hA hs AA AA
    have ho:pu (k+1) (A.drop p)=match pu k (A.drop (p+1)) with
      | none=>none
      | some (x,r)=>some (Rq 5 x,r):=by
     rw[pu,if_neg AA,if_pos h5,<-Ek];rfl
    rw[ho];simp only[go_sem,Zq,LZ];refine Aa qu ?_;simp only[go_sem,Zq,LZ];refine Aa cA ?_;simp only[go_sem,Zq,LZ];unfold PR at h3
    split at h3
    .rename_i x r hx;obtain⟨rfl,h3⟩:=h3;have qf:=D0 x;have hr:=Bj x;rw[hr]at c4 qf;rw[hx];simp only;refine Aa c4 ?_;simp only[go_sem,Zq,LZ];exact Cf (v:=.tup [.agg _,.bool true]) (Cj (n0 _ _ _) rfl rfl rfl) (Cx AB) qe ⟨by unfold Rq;rw[Bj ⟨5,0,_,_,_,_⟩];simp only[A2,Bz,hr];rfl,h3⟩
    .rename_i hx;subst h3;rw[hx];simp only;refine Aa c4 ?_;simp only[go_sem,Zq,LZ];exact Cf (v:=.tup [.agg _,.bool false]) (Cj (n0 _ _ _) rfl rfl rfl) (Cx rfl) qe rfl
   .have h5:A1 [33] (A.drop p)=false:=by simpa using h5
    exact prim k hb AA h4 h5 (by simp_all [pu])
theorem Bco{n:Nat}(hE:∀ k,k<n->PE k)(hU:∀ k,k<n->PU k):PE n:=by
 intro qa s m z t A p hA hs hp h1 h6 hb;obtain⟨n,rfl⟩:∃ k,n=k+1:=⟨n - 1,by omega⟩;refine L5 T231 rfl hs fun S hS=>?_
 have hl:A.length<=1000000:=by have:=hA.len;omega
 have qb:=hS;have hm:=hS.low;have Zq:=Dx hS;obtain⟨-,-,qd,get,get0,set,set0,n0,n1,n2,u0,u1,u2⟩:=hS;by_cases h5:5<qa
 .have f5:((5:Int)<(qa:Int))=True:=eq_true AA;have ho:pe (n+1) qa (A.drop p)=pu n (A.drop p):=by rw[pe,if_pos h5]
  obtain⟨v,q,c4,qe,h3⟩:=Pt qb (l:=[.row [iV 0,iV 0,.str [],.nils] 102 0 0]) fun hs=>hU n AA _ m z t A p hA hs hp AA
  rw[ho];simp only[go_sem,Zq,LZ,gt_iff_lt,f5];unfold PR at h3 ⊢
  split at h3
  .rename_i x r hx;obtain⟨rfl,h3⟩:=h3;have qf:=D0 x;have hr:=Bj x;rw[hr]at c4 qf;rw[hr];refine Aa c4 ?_;simp only[go_sem,Zq,LZ];exact Cf (v:=.tup [.agg _,.bool true]) (Cj (n0 _ _ _) rfl rfl rfl) (Cx qf) qe ⟨rfl,h3⟩
  .rename_i hx;subst h3;refine Aa c4 ?_;simp only[go_sem,Zq,LZ];exact Cf (v:=.tup [.agg _,.bool false]) (Cj (n0 _ _ _) rfl rfl rfl) (Cx rfl) qe rfl
 .have f5:((5:Int)<(qa:Int))=False:=eq_false AA;have qr:=Ay (show qa<9223372036854775807 by omega);obtain⟨v,q,c4,qe,h3⟩:=Pt qb (l:=[.row [iV 0,iV 0,.str [],.nils] 102 0 0]) fun hs=>hE n AA (qa+1) _ m z t A p hA hs hp AA AA AA
  have ho:pe (n+1) qa (A.drop p)=match pe n (qa+1) (A.drop p) with
    | none=>none
    | some (x,r)=>lp n qa x r:=by
   rw[pe,if_neg h5];rfl
  rw[ho];simp only[go_sem,Zq,LZ,gt_iff_lt,f5,qr];unfold PR at h3
  split at h3
  rotate_left
  .rename_i hx;subst h3;rw[hx];simp only;refine Aa c4 ?_;simp only[go_sem,Zq,LZ];exact Cf (v:=.tup [.agg _,.bool false]) (Cj (n0 _ _ _) rfl rfl rfl) (Cx rfl) qe rfl
  .rename_i x r hx;obtain⟨rfl,h3⟩:=h3;have qf:=D0 x;have hr:=Bj x;rw[hr]at c4 qf;rw[hx];simp only;have qg:=(Xv n).1 _ _ _ _ hx;rw[E3]at qg;have jc:r.length=A.length - q:=by rw[<-h3,E3]
   refine Aa c4 ?_;simp only[go_sem,Zq,LZ];refine Bh (α:=Nat × Nat × Xp × St) (fun a=>a.1) (fun a=>[(0,.ptr m 0 0),(1,iV (qa:Int)),(4,.ptr s.length 0 0),(6,.ptr (s.length+1) 0 0)]) (fun a=>S a.2.1++.row [iV 0,iV 0,.str [],.nils] 102 0 0::.row [iV a.2.2.1.op,iV a.2.2.1.n,.str a.2.2.1.nm,SL a.2.2.1.z a.2.2.1.t (a.2.2.1.l.map Xp.row)] 102 0 0::a.2.2.2) (fun a=>a.1<=n/\a.2.1<=A.length/\lp a.1 qa a.2.2.1 (A.drop a.2.1)=lp n qa x r/\8*(A.length - a.2.1)+6<=a.1+qa) ?_ (n,q,x,[]) ⟨An _,qe,by rw[h3],by grind⟩;rintro⟨k,q,x,J⟩ ⟨qx,hq,qz,qT⟩ ih;simp only at qx hq qz qT ih;refine Az Bgw ?_;rw[<-qz];obtain⟨k,rfl⟩:∃ j,k=j+1:=⟨k - 1,by omega⟩;have qf:=D0 x;have hr:=Bj x;rw[hr]at qf;obtain⟨X,hX⟩:∃ X:List V,X=[iV x.op,iV x.n,.str x.nm,SL x.z x.t (x.l.map Xp.row)]:=⟨_,rfl⟩;have co:=Bcl (get q (.row [iV 0,iV 0,.str [],.nils] 102 0 0::.row [iV x.op,iV x.n,.str x.nm,SL x.z x.t (x.l.map Xp.row)] 102 0 0::J)) hl hq qa
   have nJ:∀ (q:Nat) (a b c:Ob),(S q++a::b::(J++[c]))[s.length+(J.length+1+1)]?=some c:=fun q a b c=>by
    rw[Fd (by grind),qd,show s.length+(J.length+1+1) - s.length=J.length+1+1 by omega,Pc,Pc,Fd (An _),Hl];rfl
   have uJ:∀ (q:Nat) (a b c d:Ob),(S q++a::b::(J++[c])).set (s.length+(J.length+1+1)) d=S q++a::b::(J++[d]):=fun q a b c d=>by
    rw[Qp _ _ (by grind),qd,show s.length+(J.length+1+1) - s.length=J.length+1+1 by omega,Ahg,Ahg,Qp _ _ (An _),Hl];rfl
   by_cases h0:I6 qa (A.drop q)=0
   .have ho:lp (k+1) qa x (A.drop q)=some (x,A.drop q):=by rw[lp,if_pos h0]
    rw[h0]at co;rw[ho];simp only[go_sem,Zq,LZ];refine Aa co ?_;simp only[go_sem,Zq,LZ,Int.reduceBEq];exact Cf (v:=.tup [.agg _,.bool true]) (Cj (n0 _ _ _) rfl rfl rfl) (Cx qf) hq ⟨by rw[hr],rfl⟩
   .have qB:q<A.length:=by
     rcases Bb q A.length with h | h
     .exact h
     .rw[(Lf h).1]at h0;exact absurd rfl h0
    have b0:(I6 qa (A.drop q)==0)=false:=by simp[h0]
    have qw:=Ay (show q<9223372036854775807 by omega);obtain⟨v,q2,c4,qe,h3⟩:=Pt qb (p:=q+1) (l:=.row [iV 0,iV 0,.str [],.nils] 102 0 0::.row [iV x.op,iV x.n,.str x.nm,SL x.z x.t (x.l.map Xp.row)] 102 0 0::J) fun hs=>hE k AA (qa+1) _ m z t A (q+1) hA hs qB AA AA AA
    have ho:lp (k+1) qa x (A.drop q)=match pe k (qa+1) (A.drop (q+1)) with
      | none=>none
      | some (y,r)=>if qa=3 then some (Mx (I6 qa (A.drop q)) x y,r) else lp k qa (Mx (I6 qa (A.drop q)) x y) r:=by
     rw[lp,if_neg h0,<-Ek];rfl
    generalize I6 qa (A.drop q)=op at co b0 ho;simp only[go_sem,Zq,LZ];refine Aa co ?_;simp only[go_sem,Zq,LZ,b0,qw,qr];unfold PR at h3
    split at h3
    .rename_i y r2 hy;obtain⟨rfl,h3⟩:=h3;have qY:=D0 y;have qC:=Bj y;rw[qC]at c4 qY;rw[hy]at ho;simp only at ho;have qs:=(Xv k).1 _ _ _ _ hy;rw[E3]at qs;have qV:r2.length=A.length - q2:=by rw[<-h3,E3]
     refine Aa c4 ?_
     have qG:Xp.row (Mx op x y)=[iV op,iV 0,.str [],.lst 1 [[iV x.op,iV x.n,.str x.nm,SL x.z x.t (x.l.map Xp.row)],[iV y.op,iV y.n,.str y.nm,SL y.z y.t (y.l.map Xp.row)]]]:=by
      unfold Mx;rw[Bj ⟨op,0,_,_,_,_⟩];simp only[A2,Bz,hr,qC];rfl
     have qp:=D0 (Mx op x y);rw[qG]at qp;by_cases qy:qa=3
     .have b3:((qa:Int)==3)=true:=by rw[qy];rfl
      rw[if_pos qy]at ho;rw[ho];simp only[go_sem,Zq,LZ,nJ,uJ,b3];exact Cf (v:=.tup [.agg _,.bool true]) (Cj (n0 _ _ _) rfl rfl rfl) (Cx qp) qe ⟨by rw[qG],h3⟩
     .have b3:((qa:Int)==3)=false:=by rw[beq_eq_false_iff_ne];omega
      rw[if_neg qy]at ho;rw[ho];simp only[go_sem,Zq,LZ,nJ,uJ,b3];have:=ih (k,q2,Mx op x y,J++[.row [iV y.op,iV y.n,.str y.nm,SL y.z y.t (y.l.map Xp.row)] 102 0 0]) AE ⟨by omega,qe,by grind,by grind⟩;have e:lp k qa (Mx op x y) r2=_:=ho.symm.trans qz;rw[e];simp only[Mx,A2,Bz,hr,qC]at this;exact this
    .rename_i hy;subst h3;rw[hy]at ho;simp only at ho;rw[ho];refine Aa c4 ?_;simp only[go_sem,Zq,LZ,nJ,uJ];exact Cf (v:=.tup [.agg _,.bool false]) (Cj (n0 _ _ _) rfl rfl rfl) (Cx rfl) qe rfl
def Y4:∀ n,PE n/\PU n:=by
 intro n
 induction n using Nat.strongRecOn with
 | ind n ih=>
  grind[Bco,Bcn,Bcm]
def Zh:∀ (n:Nat) (ln:Int) (l:List UInt8) (ts:List Tk),En n ln l=some ts->∀ t∈ts,t.kind=2->Lib.parseIntB 64 t.text=.ok (K1 t.text)/\t.text.length<=l.length
 | n,ln,[],ts,h=>by
  have:En n ln []=some []:=by cases n<;>rfl
  rw[this]at h;cases h;intro t ht;cases ht
 | 0,ln,c::r,ts,h=>by cases h
 | n+1,ln,c::r,ts,h=>by
  rw[En]at h
  have up:∀ {l':List UInt8} {ts':List Tk},l'.length<=(c::r).length->(∀ t∈ts',t.kind=2->Lib.parseIntB 64 t.text=.ok (K1 t.text)/\t.text.length<=l'.length)->∀ t∈ts',t.kind=2->Lib.parseIntB 64 t.text=.ok (K1 t.text)/\t.text.length<=(c::r).length:=
   fun hl h t ht hk=>⟨(h t ht hk).1,Dc (h t ht hk).2 hl⟩
  split at h
  .exact up AE (Zh n _ _ _ h)
  .split at h
   .exact up AE (Zh n _ _ _ h)
   .split at h
    .exact up (Z0 _ _) (Zh n _ _ _ h)
    .split at h
     .cases h
     .rename_i k w hf;simp only[Cg]at h;obtain⟨l,hl,rfl⟩:=h;intro t ht;rcases Bo.1 ht with rfl | ht
      .intro qJ;simp only at qJ;subst qJ;obtain⟨-,q,hq⟩:=Acy hf;have qX:w.length<=(c::r).length:=by rw[hq];simp
       refine⟨?_,qX⟩;rw[Wk]at hf;simp only
       split at hf
       .split at hf
        .cases hf
        .simp only[Pg,Prod.mk.injEq]at hf;obtain⟨hf,-⟩:=hf
         split at hf<;>omega
       .split at hf
        .rename_i hc
         split at hf
         .cases hf
         .split at hf
          .rename_i qK;cases hf
           have hd:Lj (Ew c r):=fun d hd=>by
            rcases Bo.1 hd with rfl | hd
            .exact hc
            .exact Afa hd
           rw[Aqh hd]at qK;have hv:=of_decide_eq_true qK;have h1:=Asl hd hv;have h2:=Azw hd hv;unfold Ew at hv ⊢;rw[h1,h2]
          .cases hf
        .split at hf
         .cases hf
         .simp only[Pg,Prod.mk.injEq]at hf;omega
      .exact up (by rw[E3];omega) (Zh n _ _ _ hl) t ht
def A7w{s:List UInt8}{L:List Tk}(hs:s.length<=4096)(h:En s.length 1 s=some L):OkA L:=
 ⟨Dc (Wt _ _ _ _ h) hs,fun t ht hk=>by
  obtain⟨h1,h2⟩:=Zh _ _ _ _ h t ht hk
  exact⟨h1,Dc h2 hs⟩⟩
def Bcp{s:St}{m:Nat}{z:Bool}{t:Nat}{A:List Tk}{p:Nat}(hs:s[m]?=some (RO z t A p))(hA:A.length<=1000000)(hp:p<=A.length):∃ n:Int,Bt TT PT 37 [.ptr m 0 0] s (iV n) s:=by
 suffices h:RT 37 [] s m z t A (fun v p'=>(∃ n:Int,v=iV n)/\p'=p) by
  obtain⟨v,p',h1,-,⟨n,rfl⟩,rfl⟩:=h;rw[Ot hs]at h1;exact⟨n,h1⟩
 refine L5 T37 rfl hs fun S hS=>?_
 have Zq:=Dx hS;obtain⟨-,-,qd,get,get0,set,set0,n0,n1,n2,u0,u1,u2⟩:=hS;by_cases h0:A.length=0
 .have b0:((A.length:Int)==0)=true:=by rw[h0];rfl
  simp only[go_sem,Zq,LZ,Pu,b0];exact Z2 rfl ⟨rfl,rfl⟩ hp ⟨⟨_,rfl⟩,rfl⟩
 .have b0:((A.length:Int)==0)=false:=by rw[beq_eq_false_iff_ne];omega
  by_cases h1:A.length<=p
  .have f1:((A.length:Int)<=(p:Int))=True:=eq_true AA;have e1:IntKind.i64.wrap ((A.length:Int) - 1)=((A.length - 1:Nat):Int):=by rw[B7 AA];omega
   obtain⟨x,hx⟩:∃ x,A[A.length - 1]?=some x:=⟨_,Cd AA⟩;have qt:=Akc hx;simp only[go_sem,Zq,LZ,Pu,b0,ge_iff_le,f1,e1,qt];exact Z2 rfl ⟨rfl,rfl⟩ hp ⟨⟨_,rfl⟩,rfl⟩
  .have f1:((A.length:Int)<=(p:Int))=False:=eq_false AA;obtain⟨x,hx⟩:∃ x,A[p]?=some x:=⟨_,Cd AA⟩;have qt:=Akc hx;simp only[go_sem,Zq,LZ,Pu,b0,ge_iff_le,f1];refine Ad AD ?_;simp only[go_sem,Zq,LZ,Pu,qt];exact Z2 rfl ⟨rfl,rfl⟩ hp ⟨⟨_,rfl⟩,rfl⟩
/-! SameExpr -/
/-! the maker -/
def ZB:Nat->Nat
 | 0=>1
 | k+1=>1+4*ZB k
def SB(k:Nat)(x:Sp):Prop:=ShS x/\x.sz<=ZB k/\∀ d,d+k<=100->(x.txt d).length<=1000*ZB k
def Aan{k:Nat}:∀ {l:List Sp},(∀ x∈l,SB k x)->Sp.szs l<=l.length*ZB k
 | [],_=>by simp[Sp.szs]
 | x::l,h=>by
  have h1:=Aan (fun y hy=>h y (Db _ hy));obtain⟨-,h3,-⟩:=h x Cr;rw[Sp.szs,Bg,Qu];omega
def Afc{k d:Nat}:∀ {l:List Sp},(∀ x∈l,SB k x)->d+k<=100->(Sp.txts d l).length<=l.length*(1000*ZB k)
 | [],_,_=>by simp[Sp.txts]
 | x::l,h,hd=>by
  have h1:=Afc (fun y hy=>h y (Db _ hy)) hd;obtain⟨-,-,h4⟩:=h x Cr;have h4:=h4 d hd;rw[Oj,Aq,Bg,Qu];omega
def Bhj{s:Sp}(h1:s.nm.length<=4)(h2:s.arg.length<=4)(h3:(Gi s.idx).length<=56)(h4:s.op=1\/s.op=2\/s.op=3\/s.op=14->s.ex.txt.length<=118):(Ct s).length<=300:=by
 have hw:(C7 s.op).length<=11:=by
  unfold C7
  split<;>simp
 unfold Ct
 repeat' split
 all_goals simp
 all_goals omega
def Bnf{k:Nat}{x:Sp}(h1:1<=x.op/\x.op<=15)(h2:x.idx.length<=1)(h3:x.op≠1->x.idx=[])(h4:∀ y∈x.idx,ShE y/\y.txt.length<=54)(h5:(x.op=1\/x.op=2\/x.op=3\/x.op=14)->ShE x.ex/\x.ex.txt.length<=118)(qE:Fg x.op=false->Aw1 x.ex)(h6:(Gx x.op=true/\x.nm=[])\/(Gx x.op=false/\Mg x.nm))(h7:(x.op≠15/\x.arg=[])\/(x.op=15/\Mg x.arg))
  (h8:B3 x.op=false->x.body=[]) (qv:x.op≠2->x.els=[]) (h9:B3 x.op=true->k≠0/\x.body.length<=3/\x.els.length<=1/\(∀ y∈x.body,SB (k - 1) y)/\∀ y∈x.els,SB (k - 1) y):SB k x:=by
 have hi:(Gi x.idx).length<=56:=by
  refine Dc (Ase _) ?_
  cases hx:x.idx with
  | nil=>simp
  | cons a r=>
   have:=(h4 a (by rw[hx];exact Cr)).2;simp only;omega
 have l6:x.nm.length<=4:=by
  rcases h6 with⟨-,h⟩ | ⟨-,-,h⟩
  .rw[h];exact Av _
  .exact h
 have l7:x.arg.length<=4:=by
  rcases h7 with⟨-,h⟩ | ⟨-,-,h⟩
  .rw[h];exact Av _
  .exact h
 have g1:Gx x.op=true->x.nm=[]:=fun h=>by
  rcases h6 with⟨-,h'⟩ | ⟨h',-⟩
  .exact h'
  .rw[h]at h';cases h'
 have g2:Gx x.op=false->B0 x.nm=true:=fun h=>by
  rcases h6 with⟨h',-⟩ | ⟨-,h',-⟩
  .rw[h]at h';cases h'
  .exact h'
 have g3:x.op=15->B0 x.arg=true:=fun h=>by
  rcases h7 with⟨h',-⟩ | ⟨-,h',-⟩
  .exact absurd h h'
  .exact h'
 have g4:x.op≠15->x.arg=[]:=fun h=>by
  rcases h7 with⟨-,h'⟩ | ⟨h',-⟩
  .exact h'
  .exact absurd h' h
 have g5:Fg x.op=true->ShE x.ex:=fun h=>(h5 (by
  simp only[Fg,Og,beq_iff_eq]at h
  exact h)).1
 have hh:=Bhj l6 l7 hi (fun h=>(h5 h).2);cases hb:B3 x.op
 .have qF:=h8 hb
  have qH:x.els=[]:=by
   refine qv fun h=>?_
   rw[h]at hb;cases hb
  have hz:1<=ZB k:=by cases k<;>simp[ZB]
  refine⟨.mk h1 g1 g2 g3 g4 h2 h3 (fun y hy=>(h4 y hy).1) g5 qE h8 qv (by rw[qF];simp) (by rw[qH];simp),?_,fun d hd=>?_⟩
  .rw[Nk,qF,qH];simp[Sp.szs];omega
  .rw[Nd,hb];simp only[Aq,K9,Hj,if_false,Bg,Dq];omega
 .obtain⟨hk,qm,qI,hB,hE⟩:=h9 hb;obtain⟨k,rfl⟩:∃ j,k=j+1:=⟨k - 1,by omega⟩;rw[Nat.add_sub_cancel]at hB hE;refine⟨.mk h1 g1 g2 g3 g4 h2 h3 (fun y hy=>(h4 y hy).1) g5 qE h8 qv (fun y hy=>(hB y hy).1) (fun y hy=>(hE y hy).1),?_,fun d hd=>?_⟩
  .have h1:=Aan hB;have h2:=Aan hE;have h3:=Fl (ZB k) qm;have h4:=Fl (ZB k) qI;rw[Nk,ZB];omega
  .have h1:=Afc (d:=d+1) hB AA;have h2:=Afc (d:=d+1) hE AA;have h3:=Fl (1000*ZB k) qm;have h4:=Fl (1000*ZB k) qI;rw[Nd,hb]
   have h5:(if x.els.isEmpty=true then [] else Ep d++125::32::101::108::115::101::32::123::10::Sp.txts (d+1) x.els).length<=2*d+9+(Sp.txts (d+1) x.els).length:=by
    split
    .simp
    .simp[K9];omega
   simp only[Aq,K9,if_true,Bg,Dq,ZB];omega
