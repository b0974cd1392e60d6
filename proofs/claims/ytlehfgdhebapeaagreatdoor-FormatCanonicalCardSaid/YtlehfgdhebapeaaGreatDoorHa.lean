/- Walks: the tape of numbers. -/
import Derived.Test.YtlehfgdhebapeaaGreatDoorQt
set_option linter.all false
namespace Go.Proofs.YtlehfgdhebapeaaGreatDoor.KM
open Go
def TS(s:St)(b:Nat):Prop:=∃ (z:Bool) (t:Nat) (l:List UInt8) (at':Nat),s[b]?=some (.row [SL z t (Bt l),.int .i64 (at':Int)] 69 0 0)/\at'<=l.length/\l.length<=9223372036854775807
def TW(s σ:St)(b:Nat):Prop:=s.length<=σ.length/\(∀ i,i<s.length->i≠b->σ[i]?=s[i]?)/\TS σ b/\b<s.length
theorem Nv{s:St}{b:Nat}(h:TS s b):b<s.length:=by
 obtain⟨z,t,l,a,h,-⟩:=h
 exact(Ay.1 h).1
theorem Arr{s:St}{b:Nat}(h:TS s b):TW s s b:=⟨Af _,fun _ _ _=>rfl,h,Nv h⟩
theorem Ars{s l:St}{b:Nat}(h:TS s b):TS (s++l) b:=by
 obtain⟨z,t,r,a,h,h'⟩:=h
 exact⟨z,t,r,a,Bv h,h'⟩
theorem Aea{z:Bool}{t:Nat}{l:List UInt8}{a:Int}{T:Nat}:(Ob.row [SL z t (Bt l),.int .i64 a] T 0 0).refs=[]:=by
 unfold SL
 split<;>rfl
theorem Ra{T:Nat->Option AF}{pr:Nat->Option (List V->Option V)}{f p:Nat}{res:List AR}{thr:Bool}{body:AC}{vs:List V}{σ:St}{R:V->St->Prop}(hT:T f=some ⟨p,res,thr,body,none⟩)(hl:vs.length=p)
  (h:W T pr [.c body] (Cu 0 vs) σ (Hd fun e' σ1=>∃ v,By e' σ1 res=some v/\(Cq v=true/\v.refs=[])/\(∀ i ob,i<σ.length->σ1[i]?=some ob->σ[i]?=some ob\/Dh σ.length [] ob.refs=true)/\R v (σ1.take σ.length))):∃ v σ',Bc T pr f vs σ v σ'/\R v σ':=by
 obtain⟨e',σ1,hE,v,hr,⟨h1,h2⟩,h3,h4⟩:=h
 exact⟨v,_,⟨_,hT,rfl,.fn hT rfl hl hE hr h1 (by rw[h2];rfl) h3⟩,h4⟩
theorem Art{s σ:St}{b:Nat}(h:TW s σ b):∀ i ob,i<s.length->σ[i]?=some ob->s[i]?=some ob\/Dh s.length [] ob.refs=true:=by
 intro i ob hi ho
 by_cases hb:i=b
 ·subst hb
  obtain⟨z,t,l,a,h1,-⟩:=h.2.2.1
  rw[ho]at h1
  cases h1
  exact .inr (by rw[Aea];rfl)
 ·rw[h.2.1 i hi hb]at ho
  exact .inl ho
def Mn(l:List UInt8)(a n:Nat):Nat:=if a<l.length/\1<=n then((l[a]?).getD 0).toNat % n else 0
def Ps(l:List UInt8)(a n:Nat):Nat:=if a<l.length/\1<=n then a+1 else a
theorem I1{s:St}{b:Nat}{x:Ob}(h:s[b]?=some x):s.set b x=s:=by
 refine P6 fun i=>?_
 by_cases hi:b=i
 ·subst hi
  rw[A1 (Ay.1 h).1,h]
 ·rw[Bd hi]
theorem Ahx{s:St}{b t:Nat}{z:Bool}{l:List UInt8}{at':Nat}(hs:s[b]?=some (.row [SL z t (Bt l),.int .i64 (at':Int)] 69 0 0))(h1:at'<=l.length)(h2:l.length<=9223372036854775807)(n:Nat)(hn:n<=1000000000):
  Bc TT PT 30 [.ptr b 0 0,.int .i64 (n:Int)] s (.int .i64 (Mn l at' n:Int)) (s.set b (.row [SL z t (Bt l),.int .i64 (Ps l at' n:Int)] 69 0 0)):=by
 have hw:TW s s b:=Arr ⟨z,t,l,at',hs,h1,h2⟩
 have hbl:(Bt l).length=l.length:=by simp[Bt]
 suffices hh:∃ v s',Bc TT PT 30 [.ptr b 0 0,.int .i64 (n:Int)] s v s'/\v=.int .i64 (Mn l at' n:Int)/\s'=(s.set b (.row [SL z t (Bt l),.int .i64 (Ps l at' n:Int)] 69 0 0)) by
  obtain⟨v,s',h3,rfl,rfl⟩:=hh
  exact h3
 refine Ra T30 rfl ?_
 have fin:¬ (at'<l.length/\1<=n)->V.int .i64 0=.int .i64 (Mn l at' n:Int)/\s.take s.length=(s.set b (.row [SL z t (Bt l),.int .i64 (Ps l at' n:Int)] 69 0 0)):=fun h=>by
  unfold Mn Ps
  rw[if_neg h,if_neg h,I1 hs,Dg]
  exact⟨rfl,rfl⟩
 by_cases hg:l.length<=at'
 ·have f1:((l.length:Int)<=(at':Int))=True:=eq_true (by omega)
  simp only[go_sem]
  refine A2 (by kernel_rfl) ?_
  simp only[go_sem,hs,hbl,f1]
  exact⟨_,rfl,⟨rfl,rfl⟩,fun i ob _ h=>.inl h,fin (by omega)⟩
 ·have f1:((l.length:Int)<=(at':Int))=False:=eq_false (by omega)
  by_cases hn1:n<1
  ·have f2:((n:Int)<1)=True:=eq_true (by omega)
   simp only[go_sem]
   refine A2 (by kernel_rfl) ?_
   simp only[go_sem,hs,hbl,f1,f2]
   exact⟨_,rfl,⟨rfl,rfl⟩,fun i ob _ h=>.inl h,fin (by omega)⟩
  ·have f2:((n:Int)<1)=False:=eq_false (by omega)
   simp only[go_sem]
   refine A2 (by kernel_rfl) ?_
   simp only[go_sem,hs,hbl,f1,f2]
   have hx:∃ c:UInt8,l[at']?=some c:=⟨_,Az (by omega)⟩
   obtain⟨c,hc⟩:=hx
   have hrow:(Bt l)[at']?=some [.int .u8 (c.toNat:Int)]:=by unfold Bt;rw[Ch,hc];rfl
   have e1:IntKind.i64.wrap ((at':Int)+1)=((at'+1:Nat):Int):=by rw[B3 (by omega)];rfl
   have hbs:=Nv hw.2.2.1
   have k1:(s.set b (.row [SL z t (Bt l),.int .i64 ((at'+1:Nat):Int)] 69 0 0))[b]?=some (.row [SL z t (Bt l),.int .i64 ((at'+1:Nat):Int)] 69 0 0):=by rw[A1 hbs]
   have e2:IntKind.i64.wrap (((at'+1:Nat):Int) - 1)=(at':Int):=by rw[B3 (by omega)];omega
   have f3:((n:Int)=0)=False:=eq_false (by omega)
   have hcl:c.toNat<256:=c.toNat_lt
   have e3:IntKind.i64.wrap (c.toNat:Int)=(c.toNat:Int):=B3 (by omega)
   have e4:((c.toNat:Int).tmod (n:Int))=((c.toNat % n:Nat):Int):=by rw[Int.tmod_eq_emod_of_nonneg (by omega)];rfl
   simp only[go_sem,e1]
   refine A2 (by kernel_rfl) ?_
   simp only[go_sem,k1,e2,hbl,hrow,f3,not_false_eq_true,e3,e4]
   have hset:TW s (s.set b (.row [SL z t (Bt l),.int .i64 ((at'+1:Nat):Int)] 69 0 0)) b:=
    ⟨by simp,fun i hi hb=>by rw[Bd (Ne.symm hb)],⟨z,t,l,at'+1,k1,by omega,h2⟩,hbs⟩
   refine⟨_,rfl,⟨rfl,rfl⟩,Art hset,?_,?_⟩
   ·unfold Mn
    rw[if_pos (by omega),hc]
    rfl
   ·unfold Ps
    rw[if_pos (by omega),Px (by simp)]
theorem Aou(l:List UInt8)(a n:Nat):(Mn l a n<n\/Mn l a n=0)/\Mn l a n<=255:=by
 unfold Mn
 split
 ·rename_i h
  have hm:=Lw ((l[a]?).getD 0).toNat (show 0<n by omega)
  have hm2:=Nat.mod_le ((l[a]?).getD 0).toNat n
  have:=((l[a]?).getD 0).toNat_lt
  omega
 ·omega
theorem Ayz{l:List UInt8}{a:Nat}(n:Nat)(h:a<=l.length):Ps l a n<=l.length:=by
 unfold Ps
 split<;>omega
theorem Agc{s:St}{b:Nat}(h:TS s b)(n:Nat)(hn:n<=1000000000):∃ (r:Nat) (s':St),Bc TT PT 30 [.ptr b 0 0,.int .i64 (n:Int)] s (.int .i64 (r:Int)) s'/\TW s s' b/\s'.length=s.length/\(r<n\/r=0)/\r<=255/\∀ z,Bc TT PT 30 [.ptr b 0 0,.int .i64 (n:Int)] (s++[z]) (.int .i64 (r:Int)) (s'++[z]):=by
 have hb:=Nv h
 obtain⟨z,t,l,at',hs,h1,h2⟩:=h
 have hx:=Ahx hs h1 h2 n hn
 obtain⟨b1,b2⟩:=Aou l at' n
 refine⟨_,_,hx,⟨by simp,fun i hi hb=>by rw[Bd (Ne.symm hb)],⟨z,t,l,_,A1 hb,Ayz n h1,h2⟩,hb⟩,by simp,b1,b2,fun z'=>?_⟩
 have:=Ahx (Bv (l:=[z']) hs) h1 h2 n hn
 rw[Sf _ _ hb]at this
 exact this
def LS(s:St)(m b:Nat):Prop:=TS s b/\m≠b/\∃ line left:Int,s[m]?=some (.row [.ptr b 0 0,.int .i64 line,.int .i64 left] 71 0 0)/\0<=left/\left<=70
def LW(s σ:St)(m b:Nat):Prop:=s.length<=σ.length/\(∀ i,i<s.length->i≠b->i≠m->σ[i]?=s[i]?)/\LS σ m b/\b<s.length/\m<s.length
theorem Rm{s:St}{m b:Nat}(h:LS s m b):m<s.length:=by
 obtain⟨-,-,a,c,h,-⟩:=h
 exact(Ay.1 h).1
theorem L6{s:St}{m b:Nat}(h:LS s m b):LW s s m b:=⟨Af _,fun _ _ _ _=>rfl,h,Nv h.1,Rm h⟩
theorem Ex{s σ τ:St}{m b:Nat}(h:LW s σ m b)(h':LW σ τ m b):LW s τ m b:=
 ⟨Ed h.1 h'.1,fun i hi hb hm=>by rw[h'.2.1 i (by have:=h.1;omega) hb hm,h.2.1 i hi hb hm],h'.2.2.1,h.2.2.2⟩
theorem Nb{s σ l:St}{m b:Nat}(h:LW s σ m b):LW s (σ++l) m b:=by
 obtain⟨h1,h2,⟨h3,h4,x,y,h5,h8⟩,h6⟩:=h
 refine⟨by simp;omega,fun i hi hb hm=>?_,⟨Ars h3,h4,x,y,Bv h5,h8⟩,h6⟩
 rw[Ck (by omega)]
 exact h2 i hi hb hm
theorem Cy{s σ:St}{m b j:Nat}{x:Ob}(h:LW s σ m b)(hj:s.length<=j):LW s (σ.set j x) m b:=by
 obtain⟨h1,h2,⟨⟨z,t,r,a,h3,h3'⟩,h4,u,y,h5,h8⟩,h6,h7⟩:=h
 refine⟨by simpa using h1,fun i hi hb hm=>?_,⟨⟨z,t,r,a,?_,h3'⟩,h4,u,y,?_,h8⟩,h6,h7⟩
 ·rw[Bd (by omega)]
  exact h2 i hi hb hm
 ·rw[Bd (by omega)]
  exact h3
 ·rw[Bd (by omega)]
  exact h5
theorem Ajx{s σ τ:St}{m b:Nat}(h:LW s σ m b)(h':TW σ τ b):LW s τ m b:=by
 obtain⟨h1,h2,⟨h3,h4,x,y,h5,h8⟩,h6,h7⟩:=h
 exact⟨Ed h1 h'.1,fun i hi hb hm=>by rw[h'.2.1 i (by omega) hb,h2 i hi hb hm],⟨h'.2.2.1,h4,x,y,by rw[h'.2.1 m (by omega) h4];exact h5,h8⟩,h6,h7⟩
theorem Ud{s σ:St}{m b:Nat}{x y:Int}(h:LW s σ m b)(hy:0<=y/\y<=70):LW s (σ.set m (.row [.ptr b 0 0,.int .i64 x,.int .i64 y] 71 0 0)) m b:=by
 obtain⟨h1,h2,⟨⟨z,t,r,a,h3,h3'⟩,h4,u,w,h5,h8⟩,h6,h7⟩:=h
 refine⟨by simpa using h1,fun i hi hb hm=>?_,⟨⟨z,t,r,a,?_,h3'⟩,h4,x,y,?_,hy⟩,h6,h7⟩
 ·rw[Bd (by omega)]
  exact h2 i hi hb hm
 ·rw[Bd (by omega)]
  exact h3
 ·rw[A1 (by omega)]
theorem Ahy{s σ:St}{m b:Nat}(h:LW s σ m b):LW s (σ.take s.length) m b/\(σ.take s.length).length=s.length:=by
 obtain⟨h1,h2,⟨⟨z,t,r,a,h3,h3'⟩,h4,u,w,h5,h8⟩,h6,h7⟩:=h
 have hl:(σ.take s.length).length=s.length:=by simp;omega
 exact⟨⟨by omega,fun i hi hb hm=>by rw[Ym hi];exact h2 i hi hb hm,⟨⟨z,t,r,a,by rw[Ym h6];exact h3,h3'⟩,h4,u,w,by rw[Ym h7];exact h5,h8⟩,h6,h7⟩,hl⟩
theorem Ahz{s σ:St}{m b:Nat}(h:LW s σ m b):∀ i ob,i<s.length->σ[i]?=some ob->s[i]?=some ob\/Dh s.length [] ob.refs=true:=by
 obtain⟨h1,h2,⟨⟨z,t,r,a,h3,h3'⟩,h4,u,w,h5,h8⟩,h6,h7⟩:=h
 intro i ob hi ho
 by_cases hb:i=b
 ·subst hb
  rw[ho]at h3
  cases h3
  exact .inr (by rw[Aea];rfl)
 ·by_cases hm:i=m
  ·subst hm
   rw[ho]at h5
   cases h5
   refine .inr ?_
   simp[Dh,Ob.refs,Aw,V.refs,h6]
  ·rw[h2 i hi hb hm]at ho
   exact .inl ho
theorem Di{s σ:St}{m b:Nat}{e:Env}{res:List AR}{v:V}{P:V->Prop}(hr:By e σ res=some v)(hv:Cq v=true/\v.refs=[])(h:LW s σ m b)(hP:P v):
  ∃ v,By e σ res=some v/\(Cq v=true/\v.refs=[])/\(∀ i ob,i<s.length->σ[i]?=some ob->s[i]?=some ob\/Dh s.length [] ob.refs=true)/\(P v/\LW s (σ.take s.length) m b/\(σ.take s.length).length=s.length):=
 ⟨v,hr,hv,Ahz h,hP,Ahy h⟩
theorem Ay0{s:St}{m b:Nat}(h:LS s m b)(n:Nat)(hn:n<=1000000000):∃ (r:Nat) (s':St),Bc TT PT 30 [.ptr b 0 0,.int .i64 (n:Int)] s (.int .i64 (r:Int)) s'/\LW s s' m b/\s'.length=s.length/\(r<n\/r=0)/\r<=255:=by
 obtain⟨r,s',h1,h2,h3,h4,h5,-⟩:=Agc h.1 n hn
 exact⟨r,s',h1,Ajx (L6 h) h2,h3,h4,h5⟩
theorem Ec{s:St}{m b:Nat}(h:LS s m b)(n:Nat)(N:Int)(hN:N=n)(hn:n<=1000000000):∃ (r:Nat) (s':St),Bc TT PT 30 [.ptr b 0 0,.int .i64 N] s (.int .i64 (r:Int)) s'/\LW s s' m b/\s'.length=s.length/\(r<n\/r=0)/\r<=255:=by
 subst hN
 exact Ay0 h n hn
theorem Ap{s:St}{m b:Nat}(h:LS s m b):∃ line left:Int,s[m]?=some (.row [.ptr b 0 0,.int .i64 line,.int .i64 left] 71 0 0):=by
 obtain⟨-,-,a,c,h,-⟩:=h
 exact⟨a,c,h⟩
theorem T1{s:St}{m b:Nat}(h:LS s m b){line left:Int}(hs:s[m]?=some (.row [.ptr b 0 0,.int .i64 line,.int .i64 left] 71 0 0)):0<=left/\left<=70:=by
 obtain⟨-,-,a,c,h,h2⟩:=h
 rw[hs]at h
 cases h
 exact h2
end Go.Proofs.YtlehfgdhebapeaaGreatDoor.KM
