/- Effects in drawn regions, their checks done by themselves; lists. -/
import Derived.Lib.Join
import Derived.Test.YtcoeikinocflnaaGreatDoorHx
set_option linter.all false
namespace Go.Proofs.YtcoeikinocflnaaGreatDoor.KM
open Go
theorem Vr{s:St}{ob k off x:Nat}{cs:List V}{v:V}{e:Env}(q:s[ob]?=some (.row cs k 0 0))(he:e.get x=.ptr ob 0 off)(hc:cs[off]?=some v):Ae (.load 1 true (.t x)) e s=some (v,s):=by
 simp only[Ae,Ab,he,Gy,q];have hl:=(Ar.1 hc).1
 rw[if_pos ⟨trivial,by omega⟩,show(cs.drop off).take 1=[v] by
  rw[Je hl,V3,List.take_zero];have:=(Ar.1 hc).2
  rw[this]]
 rfl
theorem Ds{s:St}{ob off x:Nat}{v:V}{e:Env}(he:e.get x=.ptr ob 0 off)(h:∃ cs k,s[ob]?=some (.row cs k 0 0)/\cs[off]?=some v):Ae (.load 1 true (.t x)) e s=some (v,s):=by
 obtain⟨cs,k,q,hc⟩:=h;exact Vr q he hc
theorem Hq{s:St}{off x:Nat}{cs:List V}{v:V}{e:Env}(he:e.get x=.imm cs off)(hc:cs[off]?=some v):Ae (.load 1 true (.t x)) e s=some (v,s):=by
 simp only[Ae,Ab,he,Gy];have hl:=(Ar.1 hc).1
 have hd:(cs.drop off).take 1=[v]:=by
  rw[Je hl,V3,List.take_zero];have:=(Ar.1 hc).2;rw[this]
 rw[hd];simp[Fq];omega
theorem Dt{s:St}{ob k x n:Nat}{cs:List V}{e:Env}(q:s[ob]?=some (.row cs k 0 0))(he:e.get x=.ptr ob 0 0)(hn:cs.length=n):Ae (.load n false (.t x)) e s=some (.agg cs,s):=by
 subst hn;simp only[Ae,Ab,he,Gy,q];simp[Fq]
theorem Ma{s:St}{x n:Nat}{cs:List V}{e:Env}(he:e.get x=.imm cs 0)(hn:cs.length=n):Ae (.load n false (.t x)) e s=some (.agg cs,s):=by
 subst hn;simp only[Ae,Ab,he,Gy];simp[Fq]
section
variable {T:Nat->Option AF} {pr:Nat->Option (List V->Option V)} {deps:List (List Nat)} {n m:Nat} {e:Env} {σ:St} {fs:Fs} {ls:Ls} {K:Env->St->Fs->Ls->Prop} {i:AI}
theorem Ay{v:V}{σ1:St}(h:K (e.putO i.dst v) σ1 ((m,σ,σ1)::fs) ls)(h1:M8 deps n m fs:=by repeat (first | exact trivial | refine⟨.inl (by rfl),?_⟩ | refine⟨by rfl,?_⟩ | refine⟨.inr ⟨by rfl,by rfl⟩,?_⟩ | refine⟨.inr ⟨by(first | exact Hq rfl rfl | exact Ma rfl (by rfl) | exact Ds rfl ⟨_,_,by assumption,by rfl⟩ | exact Ds rfl ⟨_,_,Br (by assumption),by rfl⟩ | exact Dt (by assumption) rfl (by rfl) | exact Dt (Br (by assumption)) rfl (by rfl)),by(first | exact Hq rfl rfl | exact Ma rfl (by rfl) | exact Ds rfl ⟨_,_,by assumption,by rfl⟩ | exact Ds rfl ⟨_,_,Br (by assumption),by rfl⟩ | exact Dt (by assumption) rfl (by rfl) | exact Dt (Br (by assumption)) rfl (by rfl))⟩,?_⟩))(h2:M9 deps n m σ σ1 ls:=by repeat (first | exact trivial | refine⟨.inl (by rfl),?_⟩ | refine⟨by rfl,?_⟩ | refine⟨.inr ⟨by rfl,by rfl⟩,?_⟩ | refine⟨.inr ⟨by(first | exact Hq rfl rfl | exact Ma rfl (by rfl) | exact Ds rfl ⟨_,_,by assumption,by rfl⟩ | exact Ds rfl ⟨_,_,Br (by assumption),by rfl⟩ | exact Dt (by assumption) rfl (by rfl) | exact Dt (Br (by assumption)) rfl (by rfl)),by(first | exact Hq rfl rfl | exact Ma rfl (by rfl) | exact Ds rfl ⟨_,_,by assumption,by rfl⟩ | exact Ds rfl ⟨_,_,Br (by assumption),by rfl⟩ | exact Dt (by assumption) rfl (by rfl) | exact Dt (Br (by assumption)) rfl (by rfl))⟩,?_⟩)):Ja deps n m i .ef v σ1 e σ fs ls K:=⟨h1,h2,h⟩
theorem wgR{v:V}{σ1:St}(h:K (e.putO i.dst v) σ fs ((m,fun s=>Ae i.op e s=some (v,s))::ls))(h1:Sm deps n m (fun s=>Ae i.op e s=some (v,s)) fs:=by repeat (first | exact trivial | refine⟨.inl (by rfl),?_⟩ | refine⟨by rfl,?_⟩ | refine⟨.inr ⟨by rfl,by rfl⟩,?_⟩ | refine⟨.inr ⟨by(first | exact Hq rfl rfl | exact Ma rfl (by rfl) | exact Ds rfl ⟨_,_,by assumption,by rfl⟩ | exact Ds rfl ⟨_,_,Br (by assumption),by rfl⟩ | exact Dt (by assumption) rfl (by rfl) | exact Dt (Br (by assumption)) rfl (by rfl)),by(first | exact Hq rfl rfl | exact Ma rfl (by rfl) | exact Ds rfl ⟨_,_,by assumption,by rfl⟩ | exact Ds rfl ⟨_,_,Br (by assumption),by rfl⟩ | exact Dt (by assumption) rfl (by rfl) | exact Dt (Br (by assumption)) rfl (by rfl))⟩,?_⟩)):Ja deps n m i .rd v σ1 e σ fs ls K:=⟨h1,h⟩
theorem F1{f:Nat}{vs:List V}{v:V}{σ1:St}(hf:Bp T pr f vs σ v σ1)(h:K (e.putO i.dst v) σ1 ((m,σ,σ1)::fs) ls)(h1:M8 deps n m fs:=by repeat (first | exact trivial | refine⟨.inl (by rfl),?_⟩ | refine⟨by rfl,?_⟩ | refine⟨.inr ⟨by rfl,by rfl⟩,?_⟩ | refine⟨.inr ⟨by(first | exact Hq rfl rfl | exact Ma rfl (by rfl) | exact Ds rfl ⟨_,_,by assumption,by rfl⟩ | exact Ds rfl ⟨_,_,Br (by assumption),by rfl⟩ | exact Dt (by assumption) rfl (by rfl) | exact Dt (Br (by assumption)) rfl (by rfl)),by(first | exact Hq rfl rfl | exact Ma rfl (by rfl) | exact Ds rfl ⟨_,_,by assumption,by rfl⟩ | exact Ds rfl ⟨_,_,Br (by assumption),by rfl⟩ | exact Dt (by assumption) rfl (by rfl) | exact Dt (Br (by assumption)) rfl (by rfl))⟩,?_⟩))(h2:M9 deps n m σ σ1 ls:=by repeat (first | exact trivial | refine⟨.inl (by rfl),?_⟩ | refine⟨by rfl,?_⟩ | refine⟨.inr ⟨by rfl,by rfl⟩,?_⟩ | refine⟨.inr ⟨by(first | exact Hq rfl rfl | exact Ma rfl (by rfl) | exact Ds rfl ⟨_,_,by assumption,by rfl⟩ | exact Ds rfl ⟨_,_,Br (by assumption),by rfl⟩ | exact Dt (by assumption) rfl (by rfl) | exact Dt (Br (by assumption)) rfl (by rfl)),by(first | exact Hq rfl rfl | exact Ma rfl (by rfl) | exact Ds rfl ⟨_,_,by assumption,by rfl⟩ | exact Ds rfl ⟨_,_,Br (by assumption),by rfl⟩ | exact Dt (by assumption) rfl (by rfl) | exact Dt (Br (by assumption)) rfl (by rfl))⟩,?_⟩)):F0 T pr deps n m i (.call f vs) e σ fs ls K:=.inr (.inr ⟨v,σ1,.any hf,h1,h2,h⟩)
end
open Go Go.RowKit Go.Sort
variable {G:List (Nat × List V)}
theorem Aow{x:Sp}(h:CnS x)(d:Nat)(D:Int)(g0:max D 0=(d:Int))(hl:(x.txt d).length<=10000000000000)(hd:d+x.sz<=1073741823):Fn TT PT 99 [.agg x.row,.int .i64 D] (.str (x.txt d)):=by
 have hset:=Fi x;refine Bn T99 rfl ?_
 have w0:WB [.row x.row 105 0 0,.row [.nilp,.nils] 192 0 0] [.row x.row 105 0 0,.row [.nilp,.nils] 192 0 0] 1 []:=by
  refine Ahk (u:=.nils) ⟨.nilp,rfl,.inl rfl,F4⟩ ?_;exact Pe (Gv (s:=[]) (fun _ h=>by cases h) hset) (by simp[Ob.refs,Aj,V.refs])
 obtain⟨s1,q1,v1⟩:=Aqs h _ 1 [] d w0 (by simpa using hl) hd;obtain⟨s2,hs2⟩:=Akb v1;rw[Es]at hs2;have hrow:=Eg x;rw[hrow]at q1 hset ⊢;simp only[go_sem,g0];refine B5 q1 ?_;simp only[go_sem];refine Lq (.spec T142 rfl rfl hs2) ?_;simp only[go_sem];exact Ek rfl
theorem Aq1{x:Sp}(h:CnS x)(d:Nat)(hl:(x.txt d).length<=10000000000000)(hd:d+x.sz<=1073741823):Fn TT PT 99 [.agg x.row,.int .i64 (d:Int)] (.str (x.txt d)):=Aow h d _ (by omega) hl hd
def TS(s:St)(b:Nat):Prop:=∃ (z:Bool) (t:Nat) (l:List UInt8) (at':Nat),s[b]?=some (.row [SL z t (Bz l),.int .i64 (at':Int)] 96 0 0)/\at'<=l.length/\l.length<=9223372036854775807
def TW(s σ:St)(b:Nat):Prop:=s.length<=σ.length/\(∀ i,i<s.length->i≠b->σ[i]?=s[i]?)/\TS σ b/\b<s.length
theorem L0{s:St}{b:Nat}(h:TS s b):b<s.length:=by
 obtain⟨z,t,l,a,h,-⟩:=h;exact(Ar.1 h).1
theorem Aui{s:St}{b:Nat}(h:TS s b):TW s s b:=⟨Ah _,fun _ _ _=>rfl,h,L0 h⟩
theorem Auj{s l:St}{b:Nat}(h:TS s b):TS (s++l) b:=by
 obtain⟨z,t,r,a,h,h'⟩:=h;exact⟨z,t,r,a,Br h,h'⟩
theorem Afj{z:Bool}{t:Nat}{l:List UInt8}{a:Int}{T:Nat}:(Ob.row [SL z t (Bz l),.int .i64 a] T 0 0).refs=[]:=by
 unfold SL
 split<;>rfl
theorem Akm{T:Nat->Option AF}{pr:Nat->Option (List V->Option V)}{f p:Nat}{res:List AR}{thr:Bool}{body:AC}{vs:List V}{σ:St}{R:V->St->Prop}(hT:T f=some ⟨p,res,thr,body,none⟩)(hl:vs.length=p)
  (h:W T pr [.c body] (C2 0 vs) σ (Hd fun e' σ1=>∃ v,B6 e' σ1 res=some v/\(Cc v=true/\v.refs=[])/\(∀ i ob,i<σ.length->σ1[i]?=some ob->σ[i]?=some ob\/D7 σ.length [] ob.refs=true)/\R v (σ1.take σ.length))):∃ v σ',Bp T pr f vs σ v σ'/\R v σ':=by
 obtain⟨e',σ1,hE,v,hr,⟨h1,h2⟩,h3,h4⟩:=h;exact⟨v,_,⟨_,hT,rfl,.fn hT rfl hl hE hr h1 (by rw[h2];rfl) h3⟩,h4⟩
theorem Auk{s σ:St}{b:Nat}(h:TW s σ b):∀ i ob,i<s.length->σ[i]?=some ob->s[i]?=some ob\/D7 s.length [] ob.refs=true:=by
 intro i ob hi ho;by_cases hb:i=b
 ·subst hb;obtain⟨z,t,l,a,h1,-⟩:=h.2.2.1;rw[ho]at h1;cases h1;exact .inr (by rw[Afj];rfl)
 ·rw[h.2.1 i hi hb]at ho;exact .inl ho
def Nb(l:List UInt8)(a n:Nat):Nat:=if a<l.length/\1<=n then((l[a]?).getD 0).toNat % n else 0
def P9(l:List UInt8)(a n:Nat):Nat:=if a<l.length/\1<=n then a+1 else a
theorem Jn{s:St}{b:Nat}{x:Ob}(h:s[b]?=some x):s.set b x=s:=by
 refine Qk fun i=>?_
 by_cases hi:b=i
 ·subst hi;rw[B8 (Ar.1 h).1,h]
 ·rw[Bc hi]
theorem Ai9{s:St}{b t:Nat}{z:Bool}{l:List UInt8}{at':Nat}(hs:s[b]?=some (.row [SL z t (Bz l),.int .i64 (at':Int)] 96 0 0))(h1:at'<=l.length)(h2:l.length<=9223372036854775807)(n:Nat)(hn:n<=1000000000):
  Bp TT PT 51 [.ptr b 0 0,.int .i64 (n:Int)] s (.int .i64 (Nb l at' n:Int)) (s.set b (.row [SL z t (Bz l),.int .i64 (P9 l at' n:Int)] 96 0 0)):=by
 have hw:TW s s b:=Aui ⟨z,t,l,at',hs,h1,h2⟩;have hbl:(Bz l).length=l.length:=by simp[Bz]
 suffices hh:∃ v s',Bp TT PT 51 [.ptr b 0 0,.int .i64 (n:Int)] s v s'/\v=.int .i64 (Nb l at' n:Int)/\s'=(s.set b (.row [SL z t (Bz l),.int .i64 (P9 l at' n:Int)] 96 0 0)) by
  obtain⟨v,s',h3,rfl,rfl⟩:=hh;exact h3
 refine Akm T51 rfl ?_
 have fin:¬ (at'<l.length/\1<=n)->V.int .i64 0=.int .i64 (Nb l at' n:Int)/\s.take s.length=(s.set b (.row [SL z t (Bz l),.int .i64 (P9 l at' n:Int)] 96 0 0)):=fun h=>by
  unfold Nb P9;rw[if_neg h,if_neg h,Jn hs,Dc];exact⟨rfl,rfl⟩
 by_cases hg:l.length<=at'
 ·have f1:((l.length:Int)<=(at':Int))=True:=eq_true (by omega);simp only[go_sem];refine Ag (by kernel_rfl) ?_;simp only[go_sem,hs,hbl,f1];exact⟨_,rfl,⟨rfl,rfl⟩,fun i ob _ h=>.inl h,fin (by omega)⟩
 ·have f1:((l.length:Int)<=(at':Int))=False:=eq_false (by omega);by_cases hn1:n<1
  ·have f2:((n:Int)<1)=True:=eq_true (by omega);simp only[go_sem];refine Ag (by kernel_rfl) ?_;simp only[go_sem,hs,hbl,f1,f2];exact⟨_,rfl,⟨rfl,rfl⟩,fun i ob _ h=>.inl h,fin (by omega)⟩
  ·have f2:((n:Int)<1)=False:=eq_false (by omega);simp only[go_sem];refine Ag (by kernel_rfl) ?_;simp only[go_sem,hs,hbl,f1,f2];have hx:∃ c:UInt8,l[at']?=some c:=⟨_,A0 (by omega)⟩;obtain⟨c,hc⟩:=hx;have hrow:(Bz l)[at']?=some [.int .u8 (c.toNat:Int)]:=by unfold Bz;rw[Bb,hc];rfl
   have e1:IntKind.i64.wrap ((at':Int)+1)=((at'+1:Nat):Int):=by rw[Ef (by omega)];rfl
   have hbs:=L0 hw.2.2.1;have k1:(s.set b (.row [SL z t (Bz l),.int .i64 ((at'+1:Nat):Int)] 96 0 0))[b]?=some (.row [SL z t (Bz l),.int .i64 ((at'+1:Nat):Int)] 96 0 0):=by rw[B8 hbs]
   have e2:IntKind.i64.wrap (((at'+1:Nat):Int) - 1)=(at':Int):=by rw[Ef (by omega)];omega
   have f3:((n:Int)=0)=False:=eq_false (by omega);have hcl:c.toNat<256:=c.toNat_lt;have e3:IntKind.i64.wrap (c.toNat:Int)=(c.toNat:Int):=Ef (by omega);have e4:((c.toNat:Int).tmod (n:Int))=((c.toNat % n:Nat):Int):=by rw[Int.tmod_eq_emod_of_nonneg (by omega)];rfl
   simp only[go_sem,e1];refine Ag (by kernel_rfl) ?_;simp only[go_sem,k1,e2,hbl,hrow,f3,not_false_eq_true,e3,e4]
   have hset:TW s (s.set b (.row [SL z t (Bz l),.int .i64 ((at'+1:Nat):Int)] 96 0 0)) b:=
    ⟨by simp,fun i hi hb=>by rw[Bc (Ne.symm hb)],⟨z,t,l,at'+1,k1,by omega,h2⟩,hbs⟩
   refine⟨_,rfl,⟨rfl,rfl⟩,Auk hset,?_,?_⟩
   ·unfold Nb;rw[if_pos (by omega),hc];rfl
   ·unfold P9;rw[if_pos (by omega),Jf (by simp)]
theorem Aq2(l:List UInt8)(a n:Nat):(Nb l a n<n\/Nb l a n=0)/\Nb l a n<=255:=by
 unfold Nb
 split
 ·rename_i h;have hm:=Mi ((l[a]?).getD 0).toNat (show 0<n by omega);have hm2:=Nat.mod_le ((l[a]?).getD 0).toNat n;have:=((l[a]?).getD 0).toNat_lt;omega
 ·omega
theorem A1r{l:List UInt8}{a:Nat}(n:Nat)(h:a<=l.length):P9 l a n<=l.length:=by
 unfold P9
 split<;>omega
theorem Aq3{s:St}{b:Nat}(h:TS s b)(n:Nat)(hn:n<=1000000000):∃ (r:Nat) (s':St),Bp TT PT 51 [.ptr b 0 0,.int .i64 (n:Int)] s (.int .i64 (r:Int)) s'/\TW s s' b/\s'.length=s.length/\(r<n\/r=0)/\r<=255/\∀ z,Bp TT PT 51 [.ptr b 0 0,.int .i64 (n:Int)] (s++[z]) (.int .i64 (r:Int)) (s'++[z]):=by
 have hb:=L0 h;obtain⟨z,t,l,at',hs,h1,h2⟩:=h;have hx:=Ai9 hs h1 h2 n hn;obtain⟨b1,b2⟩:=Aq2 l at' n;refine⟨_,_,hx,⟨by simp,fun i hi hb=>by rw[Bc (Ne.symm hb)],⟨z,t,l,_,B8 hb,A1r n h1,h2⟩,hb⟩,by simp,b1,b2,fun z'=>?_⟩;have:=Ai9 (Br (l:=[z']) hs) h1 h2 n hn;rw[Sy _ _ hb]at this;exact this
theorem Sj{τ:St}{i x t n:Nat}{cs:List V}{e:Env}(h:τ[i]?=some (.row cs t 0 0))(h1:e.get x=.ptr i 0 0)(hn:cs.length=n):B6 e τ [AR.cell x n false]=some (.agg cs):=by
 subst hn;simp only[B6,Fe,h1,Gy,h];simp[Fq]
theorem Ax7{cs:List V}(h:Da (.agg cs)=true):Cc (.agg cs)=true/\(V.agg cs).refs=[]:=⟨Uh h,Qx h⟩
def Ip(nm:List UInt8):Prop:=Bv nm=true/\nm.length<=4
theorem T0(l:List (List UInt8))(hl:(l.all fun x=>Bv x&&decide (x.length<=4))=true){j:Nat}(hj:j<l.length):∃ nm,(l.map fun x=>[V.str x])[j]?=some [.str nm]/\Ip nm:=by
 refine⟨l[j],by rw[Bb,A0 hj];rfl,?_⟩;have:=Bd.1 hl l[j] (Fa _);simp only[Af,decide_eq_true_eq]at this;exact this
theorem Aq4(nm:List UInt8):Fn TT PT 130 [.str nm] (.agg (Xp.row ⟨2,0,nm,true,0,[]⟩)):=by
 refine Bn T130 rfl ?_;simp only[go_sem];exact Ek rfl
theorem Aja(op:Int)(a c:Xp):Fn TT PT 129 [.int .i64 op,.agg a.row,.agg c.row] (.agg (Xp.row ⟨op,0,[],true,1,[a,c]⟩)):=by
 have ha:=C7 a;have hc:=C7 c;refine Bn T129 rfl ?_;rw[Ax ⟨op,0,[],true,1,[a,c]⟩];simp only[Ba,Bs];rw[Ax a,Ax c]at *;simp only[go_sem];exact Ek (by simp only[go_sem])
def EB:Nat->Nat
 | 0=>22
 | d+1=>2*EB d+10
theorem Y0(d:Nat):22<=EB d:=by
 cases d with
 | zero=>exact Ah _
 | succ d=>
  have:∀ d,22<=EB d:=fun d=>by
   induction d with
   | zero=>exact Ah _
   | succ d ih=>simp only[EB];omega
  exact this (d+1)
theorem Ajb{d:Nat}(h:d≠0):EB d=2*EB (d - 1)+10:=by
 cases d with
 | zero=>exact absurd rfl h
 | succ d=>rfl
theorem Ajc(op:Int):(Cd op).length<=2:=by
 unfold Cd
 split<;>simp
