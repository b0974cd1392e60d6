/- Effects in drawn regions, their checks done by themselves; lists. -/
import Derived.Test.YtcoeikinocflnaaGreatDoorA5
import Derived.Test.YtcoeikinocflnaaGreatDoorNa
import Derived.Lib.Join
import Derived.Test.YtcoeikinocflnaaGreatDoorGg
import Derived.Test.YtcoeikinocflnaaGreatDoorLb
set_option linter.all false
namespace Go.Proofs.YtcoeikinocflnaaGreatDoor.KM
open Go
theorem rd1{s:St}{ob k off x:Nat}{cs:List V}{v:V}{e:Env}(q:s[ob]?=some (.row cs k 0 0))(he:e.get x=.ptr ob 0 off)(hc:cs[off]?=some v):Ad (.load 1 true (.t x)) e s=some (v,s):=by
 simp only[Ad,Ab,he,Dr,q]
 have hl:=(Au.1 hc).1
 rw[if_pos ⟨trivial,by omega⟩,show(cs.drop off).take 1=[v] by
  rw[Fg hl,Sd,Y4]
  have:=(Au.1 hc).2
  rw[this]]
 rfl
theorem Hb{s:St}{ob off x:Nat}{v:V}{e:Env}(he:e.get x=.ptr ob 0 off)(h:∃ cs k,s[ob]?=some (.row cs k 0 0)/\cs[off]?=some v):Ad (.load 1 true (.t x)) e s=some (v,s):=by
 obtain⟨cs,k,q,hc⟩:=h
 exact rd1 q he hc
theorem N8{s:St}{off x:Nat}{cs:List V}{v:V}{e:Env}(he:e.get x=.imm cs off)(hc:cs[off]?=some v):Ad (.load 1 true (.t x)) e s=some (v,s):=by
 simp only[Ad,Ab,he,Dr]
 have hl:=(Au.1 hc).1
 have hd:(cs.drop off).take 1=[v]:=by
  rw[Fg hl,Sd,Y4]
  have:=(Au.1 hc).2
  rw[this]
 rw[hd]
 simp[E7]
 omega
theorem Hg{s:St}{ob k x n:Nat}{cs:List V}{e:Env}(q:s[ob]?=some (.row cs k 0 0))(he:e.get x=.ptr ob 0 0)(hn:cs.length=n):Ad (.load n false (.t x)) e s=some (.agg cs,s):=by
 subst hn
 simp only[Ad,Ab,he,Dr,q]
 simp[E7]
theorem N2{s:St}{x n:Nat}{cs:List V}{e:Env}(he:e.get x=.imm cs 0)(hn:cs.length=n):Ad (.load n false (.t x)) e s=some (.agg cs,s):=by
 subst hn
 simp only[Ad,Ab,he,Dr]
 simp[E7]
section
variable {T:Nat->Option AF} {pr:Nat->Option (List V->Option V)} {deps:List (List Nat)} {n m:Nat} {e:Env} {σ:St} {fs:Fs} {ls:Ls} {K:Env->St->Fs->Ls->Prop} {i:AI}
theorem Bl{v:V}{σ1:St}(h:K (e.putO i.dst v) σ1 ((m,σ,σ1)::fs) ls)(h1:Lg deps n m fs:=by repeat (first | exact trivial | refine⟨.inl (by rfl),?_⟩ | refine⟨by rfl,?_⟩ | refine⟨.inr ⟨by rfl,by rfl⟩,?_⟩ | refine⟨.inr ⟨by(first | exact N8 rfl rfl | exact N2 rfl (by rfl) | exact Hb rfl ⟨_,_,by assumption,by rfl⟩ | exact Hb rfl ⟨_,_,Dn (by assumption),by rfl⟩ | exact Hg (by assumption) rfl (by rfl) | exact Hg (Dn (by assumption)) rfl (by rfl)),by(first | exact N8 rfl rfl | exact N2 rfl (by rfl) | exact Hb rfl ⟨_,_,by assumption,by rfl⟩ | exact Hb rfl ⟨_,_,Dn (by assumption),by rfl⟩ | exact Hg (by assumption) rfl (by rfl) | exact Hg (Dn (by assumption)) rfl (by rfl))⟩,?_⟩))(h2:Lh deps n m σ σ1 ls:=by repeat (first | exact trivial | refine⟨.inl (by rfl),?_⟩ | refine⟨by rfl,?_⟩ | refine⟨.inr ⟨by rfl,by rfl⟩,?_⟩ | refine⟨.inr ⟨by(first | exact N8 rfl rfl | exact N2 rfl (by rfl) | exact Hb rfl ⟨_,_,by assumption,by rfl⟩ | exact Hb rfl ⟨_,_,Dn (by assumption),by rfl⟩ | exact Hg (by assumption) rfl (by rfl) | exact Hg (Dn (by assumption)) rfl (by rfl)),by(first | exact N8 rfl rfl | exact N2 rfl (by rfl) | exact Hb rfl ⟨_,_,by assumption,by rfl⟩ | exact Hb rfl ⟨_,_,Dn (by assumption),by rfl⟩ | exact Hg (by assumption) rfl (by rfl) | exact Hg (Dn (by assumption)) rfl (by rfl))⟩,?_⟩)):Ip deps n m i .ef v σ1 e σ fs ls K:=⟨h1,h2,h⟩
theorem Je{f:Nat}{vs:List V}{v:V}{σ1:St}(hf:Bk T pr f vs σ v σ1)(h:K (e.putO i.dst v) σ1 ((m,σ,σ1)::fs) ls)(h1:Lg deps n m fs:=by repeat (first | exact trivial | refine⟨.inl (by rfl),?_⟩ | refine⟨by rfl,?_⟩ | refine⟨.inr ⟨by rfl,by rfl⟩,?_⟩ | refine⟨.inr ⟨by(first | exact N8 rfl rfl | exact N2 rfl (by rfl) | exact Hb rfl ⟨_,_,by assumption,by rfl⟩ | exact Hb rfl ⟨_,_,Dn (by assumption),by rfl⟩ | exact Hg (by assumption) rfl (by rfl) | exact Hg (Dn (by assumption)) rfl (by rfl)),by(first | exact N8 rfl rfl | exact N2 rfl (by rfl) | exact Hb rfl ⟨_,_,by assumption,by rfl⟩ | exact Hb rfl ⟨_,_,Dn (by assumption),by rfl⟩ | exact Hg (by assumption) rfl (by rfl) | exact Hg (Dn (by assumption)) rfl (by rfl))⟩,?_⟩))(h2:Lh deps n m σ σ1 ls:=by repeat (first | exact trivial | refine⟨.inl (by rfl),?_⟩ | refine⟨by rfl,?_⟩ | refine⟨.inr ⟨by rfl,by rfl⟩,?_⟩ | refine⟨.inr ⟨by(first | exact N8 rfl rfl | exact N2 rfl (by rfl) | exact Hb rfl ⟨_,_,by assumption,by rfl⟩ | exact Hb rfl ⟨_,_,Dn (by assumption),by rfl⟩ | exact Hg (by assumption) rfl (by rfl) | exact Hg (Dn (by assumption)) rfl (by rfl)),by(first | exact N8 rfl rfl | exact N2 rfl (by rfl) | exact Hb rfl ⟨_,_,by assumption,by rfl⟩ | exact Hb rfl ⟨_,_,Dn (by assumption),by rfl⟩ | exact Hg (by assumption) rfl (by rfl) | exact Hg (Dn (by assumption)) rfl (by rfl))⟩,?_⟩)):Ft T pr deps n m i (.call f vs) e σ fs ls K:=.inr (.inr ⟨v,σ1,.any hf,h1,h2,h⟩)
end
open Go Go.RowKit Go.Sort
variable {G:List (Nat × List V)}
theorem Aoc{x:Sp}(h:CnS x)(d:Nat)(D:Int)(g0:max D 0=(d:Int))(hl:(x.txt d).length<=10000000000000)(hd:d+x.sz<=1073741823):Fn TT PT 99 [.agg x.row,.int .i64 D] (.str (x.txt d)):=by
 have hset:=Jb x
 refine Ch T99 rfl ?_
 have w0:WB [.row x.row 105 0 0,.row [.nilp,.nils] 192 0 0] [.row x.row 105 0 0,.row [.nilp,.nils] 192 0 0] 1 []:=by
  refine Ag3 (u:=.nils) ⟨.nilp,rfl,.inl rfl,Fy⟩ ?_
  exact Tv (Jr (s:=[]) (fun _ h=>by cases h) hset) (by simp[Ob.refs,Aq,V.refs])
 obtain⟨s1,q1,v1⟩:=Aqg h _ 1 [] d w0 (by simpa using hl) hd
 obtain⟨s2,hs2⟩:=Ajy v1
 rw[Bw]at hs2
 have hrow:=Fk x
 rw[hrow]at q1 hset ⊢
 simp only[go_sem,g0]
 refine Dg q1 ?_
 simp only[go_sem]
 refine M2 (.spec T142 rfl rfl hs2) ?_
 simp only[go_sem]
 exact H0 rfl
theorem Aqq{x:Sp}(h:CnS x)(d:Nat)(hl:(x.txt d).length<=10000000000000)(hd:d+x.sz<=1073741823):Fn TT PT 99 [.agg x.row,.int .i64 (d:Int)] (.str (x.txt d)):=Aoc h d _ (by omega) hl hd
theorem Ax6{T:Nat->Option AF}{pr:Nat->Option (List V->Option V)}{f p:Nat}{res:List AR}{thr:Bool}{body:AC}{vs:List V}{σ:St}{R:V->St->Prop}(hT:T f=some ⟨p,res,thr,body,none⟩)(hl:vs.length=p)
  (h:W T pr [.c body] (Df 0 vs) σ (Hd fun e' σ1=>∃ v,B2 e' σ1 res=some v/\(Cs v=true/\v.refs=[])/\(∀ i ob,i<σ.length->σ1[i]?=some ob->σ[i]?=some ob\/D1 σ.length [] ob.refs=true)/\R v (σ1.take σ.length))):∃ v σ',Bk T pr f vs σ v σ'/\R v σ':=by
 obtain⟨e',σ1,hE,v,hr,⟨h1,h2⟩,h3,h4⟩:=h
 exact⟨v,_,⟨_,hT,rfl,.fn hT rfl hl hE hr h1 (by rw[h2];rfl) h3⟩,h4⟩
theorem Jn{s:St}{b:Nat}{x:Ob}(h:s[b]?=some x):s.set b x=s:=by
 refine Pz fun i=>?_
 by_cases hi:b=i
 ·subst hi
  rw[Cw (Au.1 h).1,h]
 ·rw[B5 hi]
theorem Ald{τ:St}{i x t n:Nat}{cs:List V}{e:Env}(h:τ[i]?=some (.row cs t 0 0))(h1:e.get x=.ptr i 0 0)(hn:cs.length=n):B2 e τ [AR.cell x n false]=some (.agg cs):=by
 subst hn
 simp only[B2,Ew,h1,Dr,h]
 simp[E7]
end Go.Proofs.YtcoeikinocflnaaGreatDoor.KM
