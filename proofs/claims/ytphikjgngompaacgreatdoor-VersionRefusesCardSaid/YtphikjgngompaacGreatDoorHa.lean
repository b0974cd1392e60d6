/- Walks: the tape of numbers. -/
import Derived.Test.YtphikjgngompaacGreatDoorVa
import Derived.Test.YtphikjgngompaacGreatDoorLi
set_option linter.all false
namespace Go.Proofs.YtphikjgngompaacGreatDoor.KM
open Go
def TS(s:St)(b:Nat):Prop:=∃ (z:Bool) (t:Nat) (l:List UInt8) (qa:Nat),s[b]?=some (.row [SL z t (By l),iV (qa:Int)] 91 0 0)/\qa<=l.length/\l.length<=9223372036854775807
def TW(s σ:St)(b:Nat):Prop:=s.length<=σ.length/\(∀ i,i<s.length->i≠b->σ[i]?=s[i]?)/\TS σ b/\b<s.length
def Ov{s:St}{b:Nat}(h:TS s b):b<s.length:=by
 obtain⟨z,t,l,a,h,-⟩:=h;exact(An.1 h).1
def Bb7{s:St}{b:Nat}(h:TS s b):TW s s b:=⟨Am _,fun _ _ _=>rfl,h,Ov h⟩
def Bb8{s l:St}{b:Nat}(h:TS s b):TS (s++l) b:=by
 obtain⟨z,t,r,a,h,h'⟩:=h;exact⟨z,t,r,a,Bt h,h'⟩
theorem Aou{z:Bool}{t:Nat}{l:List UInt8}{a:Int}{T:Nat}:(Ob.row [SL z t (By l),iV a] T 0 0).refs=[]:=by
 unfold SL
 split<;>rfl
def Awx{T:Nat->Option AF}{pr:Nat->Option (List V->Option V)}{f p:Nat}{res:List AR}{thr:Bool}{body:AC}{vs:List V}{σ:St}{R:V->St->Prop}(hT:T f=some ⟨p,res,thr,body,none⟩)(hl:vs.length=p)
  (h:W T pr [.c body] (C7 0 vs) σ (Hd fun e' σ1=>∃ v,Ca e' σ1 res=some v/\(Cd v=true/\v.refs=[])/\(∀ i ob,i<σ.length->σ1[i]?=some ob->σ[i]?=some ob\/Ej σ.length [] ob.refs=true)/\R v (σ1.take σ.length))):∃ v σ',Bw T pr f vs σ v σ'/\R v σ':=by
 obtain⟨e',σ1,hE,v,hr,⟨h1,h2⟩,h3,h4⟩:=h;exact⟨v,_,⟨_,hT,rfl,.fn hT rfl hl hE hr h1 (by rw[h2];rfl) h3⟩,h4⟩
def Bb9{s σ:St}{b:Nat}(h:TW s σ b):∀ i ob,i<s.length->σ[i]?=some ob->s[i]?=some ob\/Ej s.length [] ob.refs=true:=by
 intro i ob hi ho;by_cases hb:i=b
 .subst hb;obtain⟨z,t,l,a,h1,-⟩:=h.2.2.1;rw[ho]at h1;cases h1;exact .inr (by rw[Aou];rfl)
 .rw[h.2.1 i hi hb]at ho;exact .inl ho
def Rd(l:List UInt8)(a n:Nat):Nat:=if a<l.length/\1<=n then((l[a]?).getD 0).toNat % n else 0
def Ve(l:List UInt8)(a n:Nat):Nat:=if a<l.length/\1<=n then a+1 else a
theorem Og{s:St}{b:Nat}{x:Ob}(h:s[b]?=some x):s.set b x=s:=by
 refine Tf fun i=>?_
 by_cases hi:b=i
 .subst hi;rw[Cf (An.1 h).1,h]
 .rw[B4 hi]
def Aux{s:St}{b t:Nat}{z:Bool}{l:List UInt8}{qa:Nat}(hs:s[b]?=some (.row [SL z t (By l),iV (qa:Int)] 91 0 0))(h1:qa<=l.length)(h2:l.length<=9223372036854775807)(n:Nat)(hn:n<=1000000000):
  Bw TT PT 38 [.ptr b 0 0,iV (n:Int)] s (iV (Rd l qa n:Int)) (s.set b (.row [SL z t (By l),iV (Ve l qa n:Int)] 91 0 0)):=by
 have hw:TW s s b:=Bb7 ⟨z,t,l,qa,hs,h1,h2⟩;have qk:(By l).length=l.length:=by simp[By]
 suffices hh:∃ v s',Bw TT PT 38 [.ptr b 0 0,iV (n:Int)] s v s'/\v=iV (Rd l qa n:Int)/\s'=(s.set b (.row [SL z t (By l),iV (Ve l qa n:Int)] 91 0 0)) by
  obtain⟨v,s',h3,rfl,rfl⟩:=hh;exact h3
 refine Awx T38 rfl ?_
 have qf:¬ (qa<l.length/\1<=n)->iV 0=iV (Rd l qa n:Int)/\s.take s.length=(s.set b (.row [SL z t (By l),iV (Ve l qa n:Int)] 91 0 0)):=fun h=>by
  unfold Rd Ve;rw[if_neg h,if_neg h,Og hs,Dh];exact⟨rfl,rfl⟩
 by_cases hg:l.length<=qa
 .have f1:((l.length:Int)<=(qa:Int))=True:=eq_true AA;simp only[go_sem];refine Ad AD ?_;simp only[go_sem,hs,qk,f1];exact⟨_,rfl,⟨rfl,rfl⟩,fun i ob _ h=>.inl h,qf AA⟩
 .have f1:((l.length:Int)<=(qa:Int))=False:=eq_false AA;by_cases jq:n<1
  .have f2:((n:Int)<1)=True:=eq_true AA;simp only[go_sem];refine Ad AD ?_;simp only[go_sem,hs,qk,f1,f2];exact⟨_,rfl,⟨rfl,rfl⟩,fun i ob _ h=>.inl h,qf AA⟩
  .have f2:((n:Int)<1)=False:=eq_false AA;simp only[go_sem];refine Ad AD ?_;simp only[go_sem,hs,qk,f1,f2];have hx:∃ c:UInt8,l[qa]?=some c:=⟨_,Cb AA⟩;obtain⟨c,hc⟩:=hx;have qD:(By l)[qa]?=some [.int .u8 (c.toNat:Int)]:=by unfold By;rw[Ak,hc];rfl
   have e1:IntKind.i64.wrap ((qa:Int)+1)=((qa+1:Nat):Int):=by rw[Bo AA];rfl
   have qJ:=Ov hw.2.2.1;have k1:(s.set b (.row [SL z t (By l),iV ((qa+1:Nat):Int)] 91 0 0))[b]?=some (.row [SL z t (By l),iV ((qa+1:Nat):Int)] 91 0 0):=by rw[Cf qJ]
   have e2:IntKind.i64.wrap (((qa+1:Nat):Int) - 1)=(qa:Int):=by rw[Bo AA];omega
   have f3:((n:Int)=0)=False:=eq_false AA;have qA:c.toNat<256:=c.toNat_lt;have e3:IntKind.i64.wrap (c.toNat:Int)=(c.toNat:Int):=Bo AA;have e4:((c.toNat:Int).tmod (n:Int))=((c.toNat % n:Nat):Int):=by rw[Int.tmod_eq_emod_of_nonneg AA];rfl
   simp only[go_sem,e1];refine Ad AD ?_;simp only[go_sem,k1,e2,qk,qD,f3,not_false_eq_true,e3,e4]
   have qh:TW s (s.set b (.row [SL z t (By l),iV ((qa+1:Nat):Int)] 91 0 0)) b:=
    ⟨by simp,fun i hi hb=>by rw[B4 (Ne.symm hb)],⟨z,t,l,qa+1,k1,by omega,h2⟩,qJ⟩
   refine⟨_,rfl,⟨rfl,rfl⟩,Bb9 qh,?_,?_⟩
   .unfold Rd;rw[if_pos AA,hc];rfl
   .unfold Ve;rw[if_pos AA,Ky AE]
def A7l(l:List UInt8)(a n:Nat):(Rd l a n<n\/Rd l a n=0)/\Rd l a n<=255:=by
 unfold Rd
 split
 .rename_i h;have hm:=Tn ((l[a]?).getD 0).toNat (show 0<n by omega);have jp:=Nat.mod_le ((l[a]?).getD 0).toNat n;have:=((l[a]?).getD 0).toNat_lt;omega
 .omega
def Bmt{l:List UInt8}{a:Nat}(n:Nat)(h:a<=l.length):Ve l a n<=l.length:=by
 unfold Ve
 split<;>omega
def Asj{s:St}{b:Nat}(h:TS s b)(n:Nat)(hn:n<=1000000000):∃ (r:Nat) (s':St),Bw TT PT 38 [.ptr b 0 0,iV (n:Int)] s (iV (r:Int)) s'/\TW s s' b/\s'.length=s.length/\(r<n\/r=0)/\r<=255/\∀ z,Bw TT PT 38 [.ptr b 0 0,iV (n:Int)] (s++[z]) (iV (r:Int)) (s'++[z]):=by
 have hb:=Ov h;obtain⟨z,t,l,qa,hs,h1,h2⟩:=h;have hx:=Aux hs h1 h2 n hn;obtain⟨b1,b2⟩:=A7l l qa n;refine⟨_,_,hx,⟨by simp,fun i hi hb=>by rw[B4 (Ne.symm hb)],⟨z,t,l,_,Cf hb,Bmt n h1,h2⟩,hb⟩,by simp,b1,b2,fun z'=>?_⟩;have:=Aux (Bt (l:=[z']) hs) h1 h2 n hn;rw[Agv _ _ hb]at this;exact this
def Va{τ:St}{i x t n:Nat}{cs:List V}{e:Env}(h:τ[i]?=some (.row cs t 0 0))(h1:e.get x=.ptr i 0 0)(hn:cs.length=n):Ca e τ [AR.cell x n false]=some (.agg cs):=by
 subst hn;simp only[Ca,Gr,h1,H3,h];simp[Ht]
def Bg4{cs:List V}(h:De (.agg cs)=true):Cd (.agg cs)=true/\(V.agg cs).refs=[]:=⟨Zd h,Vz h⟩
def L8(nm:List UInt8):Prop:=B3 nm=true/\nm.length<=4
def Y0(l:List (List UInt8))(hl:(l.all fun x=>B3 x&&decide (x.length<=4))=true){j:Nat}(hj:j<l.length):∃ nm,(l.map fun x=>[V.str x])[j]?=some [.str nm]/\L8 nm:=by
 refine⟨l[j],by rw[Ak,Cb hj];rfl,?_⟩;have:=Cc.1 hl l[j] (Nw _);simp only[Al,decide_eq_true_eq]at this;exact this
def A7m(nm:List UInt8):Fn TT PT 114 [.str nm] (.agg (Xp.row ⟨2,0,nm,true,0,[]⟩)):=by
 refine Bg T114 rfl ?_;simp only[go_sem];exact Gs rfl
def Auy(op:Int)(a c:Xp):Fn TT PT 113 [iV op,.agg a.row,.agg c.row] (.agg (Xp.row ⟨op,0,[],true,1,[a,c]⟩)):=by
 have ha:=Dy a;have hc:=Dy c;refine Bg T113 rfl ?_;rw[Bi ⟨op,0,[],true,1,[a,c]⟩];simp only[Bh,B0];rw[Bi a,Bi c]at *;simp only[go_sem];exact Gs AB
def EB:Nat->Nat
 | 0=>22
 | d+1=>2*EB d+10
theorem Aft(d:Nat):22<=EB d:=by
 cases d with
 | zero=>exact Am _
 | succ d=>
  have:∀ d,22<=EB d:=fun d=>by
   induction d with
   | zero=>exact Am _
   | succ d ih=>simp only[EB];omega
  exact this (d+1)
def Auz{d:Nat}(h:d≠0):EB d=2*EB (d - 1)+10:=by
 cases d with
 | zero=>exact absurd rfl h
 | succ d=>rfl
def Au0(op:Int):(Cr op).length<=2:=by
 unfold Cr
 split<;>simp
structure MKr (σ:St) (m b:Nat) (uH:V) (H:List (List UInt8)):Prop where
 row:∃ (th left:Int) (se tx ao lp:Bool),σ[m]?=some (mO b th left se tx ao lp uH)
 tape:TS σ b
 ne:m≠b
 h:GS σ 1 9 uH (H.map fun x=>[V.str x])
 hd:∀ j∈uH.refs,j≠m/\j≠b
 cl:Cl σ
theorem Lt{σ:St}{m b:Nat}{uH:V}{H:List (List UInt8)}(h:MKr σ m b uH H):m<σ.length:=by
 obtain⟨_,_,_,_,_,_,hr⟩:=h.row
 grind
def H7{σ:St}{m b:Nat}{uH:V}{H:List (List UInt8)}(h:MKr σ m b uH H):fp σ m=m::(b::uH.refs):=by
 obtain⟨_,_,_,_,_,_,hr⟩:=h.row;rw[Akk hr];simp[Ah,V.refs]
def Qx{σ τ:St}{m b:Nat}{uH:V}{H:List (List UInt8)}(h:MKr σ m b uH H)(hc:Cl τ)(hm:τ[m]?=σ[m]?)(hb:TS τ b)(hk:∀ i∈uH.refs,τ[i]?=σ[i]?):MKr τ m b uH H:=by
 obtain⟨a1,a2,a3,a4,a5,a6,hr⟩:=h.row;exact⟨⟨a1,a2,a3,a4,a5,a6,by grind⟩,hb,h.ne,Ih h.h hk,h.hd,hc⟩
def Ad1{σ:St}{m b:Nat}{uH:V}{H:List (List UInt8)}(h:MKr σ m b uH H)(l:St)(hc:Cl (σ++l)):MKr (σ++l) m b uH H/\FW m σ (σ++l):=
 ⟨Qx h hc (Ex (Lt h)) (Bb8 h.tape) fun i hi=>Ex (C0 h.h i hi),Ajk _ (Lt h)⟩
def Bca{σ τ:St}{b:Nat}(hc:Cl σ)(hw:TW σ τ b)(hl:τ.length=σ.length):Cl τ:=by
 intro ob hm j hj;obtain⟨i,hi,rfl⟩:=Mu hm;by_cases hb:i=b
 .subst hb;obtain⟨z,t,l,a,h1,-⟩:=hw.2.2.1
  grind[Aou]
 .have h2:=hw.2.1 i AA hb;rw[Cb hi,Cb AA]at h2;rw[Nz h2]at hj;rw[hl];exact hc _ (Nw _) j hj
def Qp{σ:St}{m b:Nat}{uH:V}{H:List (List UInt8)}(h:MKr σ m b uH H)(n:Nat)(N:Int)(hN:N=n)(hn:n<=1000000000):∃ (r:Nat) (σ':St),Bw TT PT 38 [.ptr b 0 0,iV N] σ (iV (r:Int)) σ'/\MKr σ' m b uH H/\FW m σ σ'/\σ'.length=σ.length/\(r<n\/r=0)/\σ'[m]?=σ[m]?:=by
 subst hN;obtain⟨r,σ',h1,h2,h3,h4,-,-⟩:=Asj h.tape n hn;have hf:=H7 h;have km:=h2.2.1 m (Lt h) h.ne;refine⟨r,σ',h1,Qx h (Bca h.cl h2 h3) km h2.2.2.1 fun i hi=>h2.2.1 i (C0 h.h i hi) (h.hd i hi).2,⟨by omega,fun j hj hn=>h2.2.1 j hj fun e=>hn (by grind),fun j hj=>?_⟩,h3,h4,km⟩
 grind[fp]
def Awy{σ:St}{m b:Nat}{uH:V}{H:List (List UInt8)}(h:MKr σ m b uH H)(th left:Int)(se tx ao lp:Bool):MKr (σ.set m (mO b th left se tx ao lp uH)) m b uH H/\FW m σ (σ.set m (mO b th left se tx ao lp uH)):=by
 have hm:=Lt h;have hf:=H7 h;have qb:Ah [.ptr b 0 0,iV th,iV left,.bool se,.bool tx,.bool ao,.bool lp,uH]=b::uH.refs:=by simp[Ah,V.refs]
 refine⟨⟨⟨th,left,se,tx,ao,lp,Cf hm⟩,?_,h.ne,Ih h.h fun i hi=>B4 (Ne.symm (h.hd i hi).1),h.hd,F4 h.cl fun i hi=>?_⟩,Akl (Ajj _ _) hm fun j hj=>?_⟩
 .obtain⟨z,t,l,a,h1,h2⟩:=h.tape;exact⟨z,t,l,a,by rw[B4 h.ne];exact h1,h2⟩
 .simp only[Ob.refs,qb,B7]at hi;rcases hi with rfl | hi
  .exact Ov h.tape
  .exact C0 h.h i hi
 grind
def Aet{σ τ:St}{m b:Nat}{uH:V}{H:List (List UInt8)}{j:Nat}(h:MKr σ m b uH H)(hj:σ.length<=j):j ∉ fp σ m:=fun hm=>by
 rw[H7 h]at hm;simp only[B7]at hm;rcases hm with rfl | rfl | hm
 .have:=Lt h;omega
 .have:=Ov h.tape;omega
 .have:=C0 h.h j hm;omega
def Jc{σ τ:St}{m j:Nat}{x:Ob}(hw:FW m σ τ)(hj:σ[j]?=some x)(hn:j ∉ fp σ m):τ[j]?=some x/\j ∉ fp τ m:=by
 have hl:=(An.1 hj).1;refine⟨by rw[hw.2.1 j hl hn];exact hj,fun hm=>?_⟩;rcases hw.2.2 j hm with h2 | h2
 .grind
 .omega
def Aeu{T:Nat->Option AF}{pr:Nat->Option (List V->Option V)}{f:Nat}{vs:List V}{σ σ':St}{v:V}(h:Th T pr f vs σ v σ'):Bw T pr f vs σ v σ':=
 let ⟨F,h1,_,h2,h3⟩:=h
 ⟨F,h1,h2,h3⟩
def A32{j:Nat}(hj:j<6):∃ op:Int,([[iV 6],[iV 7],[iV 8],[iV 11],[iV 13],[iV 17]]:List (List V))[j]?=some [iV op]/\(6<=op/\op<=18):=by
 rcases(show j=0\/j=1\/j=2\/j=3\/j=4\/j=5 by omega) with rfl | rfl | rfl | rfl | rfl | rfl
 .simp_all
 .simp_all
 .simp_all
 .simp_all
 .simp_all
 simp_all
def Bcb(n:Int):Fn TT PT 42 [iV n] (.agg (Xp.row ⟨1,n,[],true,0,[]⟩)):=by
 refine Bg T42 rfl ?_;simp only[go_sem];exact Gs rfl
def Afu(nm:List UInt8):Fn TT PT 114 [.str nm] (.agg [iV 2,iV 0,.str nm,.nils]):=by
 have h:=A7m nm;rw[Bi]at h;exact h
def Agf(n:Int):Fn TT PT 42 [iV n] (.agg [iV 1,iV n,.str [],.nils]):=by
 have h:=Bcb n;rw[Bi]at h;exact h
def O6:Nat->Nat
 | 0=>12
 | d+1=>2*O6 d+12
def MX(d:Nat)(x:Xp):Prop:=ShE x/\x.txt.length<=EB d/\C6 x.row<=O6 d
def MXp(d m b:Nat)(uH:V)(H:List (List UInt8))(σ:St):Prop:=∃ v σ',Th TT PT 112 [.ptr m 0 0,iV (d:Int)] σ v σ'/\(∃ x:Xp,v=.agg x.row/\MX d x)/\MKr σ' m b uH H/\FW m σ σ'
theorem Aev(d:Nat):12<=O6 d:=by
 cases d<;>simp[O6]
def Ask{d:Nat}(h:d≠0):O6 d=2*O6 (d - 1)+12:=by
 cases d with
 | zero=>omega
 | succ d=>rfl
def Aov{d:Nat}(hd:d<=5)(ih:∀ d',d≠0->d'<=d - 1->∀ σ m b uH H,MKr σ m b uH H->MXp d' m b uH H σ){σ:St}{m b:Nat}{uH:V}{H:List (List UInt8)}(h:MKr σ m b uH H):MXp d m b uH H σ:=by
 have ql:=Lt h
 suffices hh:∃ v σ',Th TT PT 112 [.ptr m 0 0,iV (d:Int)] σ v σ'/\((∃ x:Xp,v=.agg x.row/\MX d x)/\MKr σ' m b uH H/\FW m σ σ') from hh
 refine Ajv T112 rfl ?_;have z0:Cl (σ++[zY]):=Jf h.cl rfl;obtain⟨s1,e1⟩:∃ s1:St,s1=σ++[zY]:=⟨_,rfl⟩;obtain⟨h1,w1⟩:=Ad1 h [zY] z0;rw[<-e1]at h1 w1;have k1:s1[σ.length]?=some zY:=by rw[e1];simp
 have n1:σ.length ∉ fp s1 m:=fun hm=>by
  rw[H7 h1,<-H7 h]at hm;exact Aet (τ:=σ) h (Am _) hm
 obtain⟨_,_,_,_,_,_,m1⟩:=h1.row;obtain⟨k,s2,q2,h2,w2,l2,r2,m2⟩:=Qp h1 10 10 rfl AA;have hk:k<10:=by omega
 obtain⟨k2,n2⟩:=Jc w2 k1 n1;rw[m1]at m2;have jw:=m2;have qw:=F1 w1 w2;rw[e1]at q2 m1
 have qf:∀ (e:Env) (s:St) (x:Xp),e.get 4=.ptr σ.length 0 0->MX d x->MKr s m b uH H->FW m σ s->s[σ.length]?=some zY->σ.length ∉ fp s m ->
   ∃ v,Ca e (s.set σ.length (.row x.row 98 0 0)) [.cell 4 4 false]=some v/\(Cd v=true/\v.refs=[])/\(σ.length<=(s.set σ.length (.row x.row 98 0 0)).length/\Cl (s.set σ.length (.row x.row 98 0 0)))/\((∃ x:Xp,v=.agg x.row/\MX d x)/\MKr (s.set σ.length (.row x.row 98 0 0)) m b uH H/\FW m σ (s.set σ.length (.row x.row 98 0 0))):=fun e s x he hx hs hw hk hn=>by
  have hl:=(An.1 hk).1;have hc:Cl (s.set σ.length (.row x.row 98 0 0)):=F4 hs.cl (by simp only[Ob.refs,Yf (Dy x)];simp);rw[H7 hs]at hn;simp only[B7,not_or]at hn;refine⟨.agg x.row,Va (Cf hl) he (A6v x),Bg4 (Dy x),⟨by grind,hc⟩,⟨x,rfl,hx⟩,Qx hs hc (B4 hn.1) ?_ (fun i hi=>B4 fun(e:σ.length=i)=>hn.2.2 (by grind)),Av5 hw (Am _) ql⟩;obtain⟨z,t,l,a,h1,h2⟩:=hs.tape;exact⟨z,t,l,a,by grind,h2⟩
 simp only[go_sem,m1];refine Aa q2 ?_;have qp:(k<2\/(¬ k<2/\d=0/\7<=k))\/(2<=k/\k<7)\/(d≠0/\k=7)\/(d≠0/\8<=k):=by omega
 rcases qp with hA | hB | hC | hD
 .obtain⟨j,s3,q3,h3,w3,l3,r3,m3⟩:=Qp h2 4 4 rfl AA;obtain⟨k3,n3⟩:=Jc w3 k2 n2;rcases hA with h4 | ⟨h4,h0,qF⟩
  case' inl=>have f1:((k:Int)<2)=True:=eq_true AA
  case' inr=>have f1:((k:Int)<2)=False:=eq_false AA
  case' inr=>have f2:((d:Int)==0)=true:=by simp[h0]
  case' inr=>have f3:((7:Int)<=(k:Int))=True:=eq_true AA
  case' inl=>simp only[go_sem,m2,f1]
  case' inr=>simp only[go_sem,m2,f1,f2,f3,ge_iff_le]
  all_goals
   refine Aa q3 ?_;simp only[go_sem];refine Ab (Agf _) rfl ?_;simp only[go_sem,k3];have qd:Xp.row ⟨1,j,[],true,0,[]⟩=[iV 1,iV (j:Int),.str [],.nils]:=by rw[Bi];rfl
   rw[<-qd];refine qf _ s3 ⟨1,j,[],true,0,[]⟩ AH ⟨.num AA,?_,?_⟩ h3 (F1 qw w3) k3 n3
   .rw[F2];have:=Wj (j:Int);have:=Aft d;simp only[Em,if_true];omega
   grind[Ha,Aev,Cx]
 .obtain⟨j,s3,q3,h3,w3,l3,r3,m3⟩:=Qp h2 7 7 rfl AA;obtain⟨k3,n3⟩:=Jc w3 k2 n2;obtain⟨nm,hn,qC⟩:=Y0 [[97],[98],[120],[121],[118],[120],[121]] AD (j:=j) (by grind);simp only[Bh,B0]at hn;have f1:((k:Int)<2)=False:=eq_false AA;have f4:((k:Int)<7)=True:=eq_true AA;have f3:((7:Int)<=(k:Int))=False:=eq_false AA;cases f2:((d:Int)==0)
  all_goals
   simp only[go_sem,m2,f1,f2,f3,f4,ge_iff_le];refine Aa q3 ?_;simp only[go_sem,hn];refine Ab (Afu nm) rfl ?_;simp only[go_sem,k3];have qd:Xp.row ⟨2,0,nm,true,0,[]⟩=[iV 2,iV 0,.str nm,.nils]:=by rw[Bi];rfl
   rw[<-qd];refine qf _ s3 ⟨2,0,nm,true,0,[]⟩ AH ⟨.name qC.1,?_,?_⟩ h3 (F1 qw w3) k3 n3
   .rw[F2];have:=Aft d;have:=qC.2;simp only[Em,show((2:Int)=1)=False from eq_false AA,if_false,if_true];omega
   .rw[Ha];have:=Aev d;have:=qC.2
    grind[Cx]
 .obtain⟨qg,rfl⟩:=hC;obtain⟨_,s3,q3,⟨x,rfl,hx⟩,h3,w3⟩:=ih 0 qg AA s2 m b uH H h2;obtain⟨k3,n3⟩:=Jc w3 k2 n2;rw[show(((0:Nat):Int))=0 from rfl]at q3;have f2:((d:Int)==0)=false:=by simp[qg]
  have qm:=Dy x;have qo:=Bi x;rw[qo]at q3 qm;simp only[go_sem,m2,f2,C4,Int.reduceBEq,Int.reduceLT];refine Bv q3 ?_;simp only[go_sem,k3];have qd:Xp.row ⟨3,0,[113],true,1,[x]⟩=[iV 3,iV 0,.str [113],.lst 1 [(xR x)]]:=by rw[Bi];simp only[Bh,B0,qo];rfl
  rw[<-qd];refine qf _ s3 ⟨3,0,[113],true,1,[x]⟩ AH ⟨.idx AD hx.1,?_,?_⟩ h3 (F1 qw w3) k3 n3
  .rw[F2];have:=Auz qg;have:=hx.2.1
   grind[EB,Aft,Em]
  .rw[Ha];have:=Ask qg;have:=hx.2.2
   grind[O6,Aev,Cx]
 .obtain⟨qg,h8⟩:=hD;obtain⟨j,s3,q3,h3,w3,l3,r3,m3⟩:=Qp h2 6 6 rfl AA;obtain⟨k3,n3⟩:=Jc w3 k2 n2;obtain⟨op,ho,jt⟩:=A32 (j:=j) AA;obtain⟨_,s4,q4,⟨x,rfl,hx⟩,h4,w4⟩:=ih (d - 1) qg AA s3 m b uH H h3;obtain⟨k4,n4⟩:=Jc w4 k3 n3;obtain⟨_,s5,q5,⟨y,rfl,hy⟩,h5,w5⟩:=ih (d - 1) qg AA s4 m b uH H h4;obtain⟨k5,n5⟩:=Jc w5 k4 n4;have f1:((k:Int)<2)=False:=eq_false AA;have f2:((d:Int)==0)=false:=by simp[qg]
  have f4:((k:Int)<7)=False:=eq_false AA;have f5:((k:Int)==7)=false:=by simp;omega
  have e3:IntKind.i64.wrap ((d:Int) - 1)=((d - 1:Nat):Int):=by rw[Bo AA];omega
  have qu:=Auy op x y;have qm:=Dy x;have jm:=Dy y;have qo:=Bi x;have jl:=Bi y;have qd:Xp.row ⟨op,0,[],true,1,[x,y]⟩=[iV op,iV 0,.str [],.lst 1 [x.row,y.row]]:=by rw[Bi];rfl
  have ju:=qd;rw[qd]at qu;rw[qo]at q4 qm qu qd;rw[jl]at q5 jm qu qd;simp only[go_sem,m2,f1,f2,f4,f5];refine Ad AD ?_;simp only[go_sem,m2];refine Ia q3 ?_;simp only[go_sem,ho];refine wgR ?_;simp only[go_sem,e3];refine Ia (Aeu q4) ?_;simp only[go_sem,e3];refine Ia (Aeu q5) ?_;simp only[go_sem];refine Ax qu AB ?_;simp only[go_sem,k5];refine Bd ?_;simp only[go_sem];rw[<-qd];refine qf _ s5 ⟨op,0,[],true,1,[x,y]⟩ AH ⟨.bin AA hx.1 hy.1,?_,?_⟩ h5 (F1 qw (F1 w3 (F1 w4 w5))) k5 n5
  .rw[F2];have:=Auz qg;have h2:=(N9 (x.op,x.txt) (Ik op)).2;have qY:=(N9 (y.op,y.txt) (Bu op+1)).2;simp only at h2 qY;have h3:(Cr op).length<=2:=Au0 _
   have h0:Em op 0 [] [(x.op,x.txt),(y.op,y.txt)]=Eh (x.op,x.txt) (Ik op)++32::(Cr op++32::Eh (y.op,y.txt) (Bu op+1)):=by
    unfold Em;rw[if_neg AA,if_neg AA]
   have:=hx.2.1;have:=hy.2.1
   grind
  .rw[Ha];have:=Ask qg;have:=hx.2.2;have:=hy.2.2
   grind[Cx]
def Asl:∀ (d:Nat),d<=5->∀ (d':Nat),d'<=d->∀ (σ:St) (m b:Nat) (uH:V) (H:List (List UInt8)),MKr σ m b uH H->MXp d' m b uH H σ
 | 0,hd,d',hd',σ,m,b,uH,H,h=>by
  obtain rfl:d'=0:=by omega
  exact Aov hd (fun _ h0 _=>absurd rfl h0) h
 | d+1,hd,d',hd',σ,m,b,uH,H,h=>Aov AA (fun d2 h0 h2 σ m b uH H h=>Asl d AA d2 AA σ m b uH H h) h
def ZB:Nat->Nat
 | 0=>1
 | k+1=>1+4*ZB k
def SB(k:Nat)(x:Sp):Prop:=ShS x/\x.sz<=ZB k/\∀ d,d+k<=100->(x.txt d).length<=1000*ZB k
def Z9{k:Nat}:∀ {l:List Sp},(∀ x∈l,SB k x)->Sp.szs l<=l.length*ZB k
 | [],_=>by simp[Sp.szs]
 | x::l,h=>by
  have h1:=Z9 (fun y hy=>h y (Dl _ hy));obtain⟨-,h3,-⟩:=h x Cz;rw[Sp.szs,Be,N0];omega
def Aew{k d:Nat}:∀ {l:List Sp},(∀ x∈l,SB k x)->d+k<=100->(Sp.txts d l).length<=l.length*(1000*ZB k)
 | [],_,_=>by simp[Sp.txts]
 | x::l,h,hd=>by
  have h1:=Aew (fun y hy=>h y (Dl _ hy)) hd;obtain⟨-,-,h4⟩:=h x Cz;have h4:=h4 d hd;rw[N2,Aj,Be,N0];omega
def Awz{s:Sp}(h1:s.nm.length<=4)(h2:s.arg.length<=4)(h3:(F6 s.idx).length<=56)(h4:s.op=1\/s.op=2\/s.op=3\/s.op=14->s.ex.txt.length<=118):(Cu s).length<=300:=by
 have hw:(C9 s.op).length<=11:=by
  unfold C9
  split<;>simp
 unfold Cu
 repeat' split
 all_goals simp
 all_goals omega
def Bmu{k:Nat}{x:Sp}(h1:1<=x.op/\x.op<=15)(h2:x.idx.length<=1)(h3:x.op≠1->x.idx=[])(h4:∀ y∈x.idx,ShE y/\y.txt.length<=54)(h5:(x.op=1\/x.op=2\/x.op=3\/x.op=14)->ShE x.ex/\x.ex.txt.length<=118)(qG:Fe x.op=false->Awk x.ex)(h6:(Gx x.op=true/\x.nm=[])\/(Gx x.op=false/\L8 x.nm))(h7:(x.op≠15/\x.arg=[])\/(x.op=15/\L8 x.arg))
  (h8:B6 x.op=false->x.body=[]) (qj:x.op≠2->x.els=[]) (h9:B6 x.op=true->k≠0/\x.body.length<=3/\x.els.length<=1/\(∀ y∈x.body,SB (k - 1) y)/\∀ y∈x.els,SB (k - 1) y):SB k x:=by
 have hi:(F6 x.idx).length<=56:=by
  refine Dd (Aiz _) ?_
  cases hx:x.idx with
  | nil=>simp
  | cons a r=>
   have:=(h4 a (by rw[hx];exact Cz)).2;simp only;omega
 have l6:x.nm.length<=4:=by
  rcases h6 with⟨-,h⟩ | ⟨-,-,h⟩
  .rw[h];exact As _
  .exact h
 have l7:x.arg.length<=4:=by
  rcases h7 with⟨-,h⟩ | ⟨-,-,h⟩
  .rw[h];exact As _
  .exact h
 have g1:Gx x.op=true->x.nm=[]:=fun h=>by
  rcases h6 with⟨-,h'⟩ | ⟨h',-⟩
  .exact h'
  .rw[h]at h';cases h'
 have g2:Gx x.op=false->B3 x.nm=true:=fun h=>by
  rcases h6 with⟨h',-⟩ | ⟨-,h',-⟩
  .rw[h]at h';cases h'
  .exact h'
 have g3:x.op=15->B3 x.arg=true:=fun h=>by
  rcases h7 with⟨h',-⟩ | ⟨-,h',-⟩
  .exact absurd h h'
  .exact h'
 have g4:x.op≠15->x.arg=[]:=fun h=>by
  rcases h7 with⟨-,h'⟩ | ⟨h',-⟩
  .exact h'
  .exact absurd h' h
 have g5:Fe x.op=true->ShE x.ex:=fun h=>(h5 (by
  simp only[Fe,Nx,beq_iff_eq]at h
  exact h)).1
 have hh:=Awz l6 l7 hi (fun h=>(h5 h).2);cases hb:B6 x.op
 .have qI:=h8 hb
  have qK:x.els=[]:=by
   refine qj fun h=>?_
   rw[h]at hb;cases hb
  have hz:1<=ZB k:=by cases k<;>simp[ZB]
  refine⟨.mk h1 g1 g2 g3 g4 h2 h3 (fun y hy=>(h4 y hy).1) g5 qG h8 qj (by rw[qI];simp) (by rw[qK];simp),?_,fun d hd=>?_⟩
  .rw[Lh,qI,qK];simp[Sp.szs];omega
  .rw[M3,hb];simp only[Aj,K4,Hz,if_false,Be,Dn];omega
 .obtain⟨hk,qk,qv,hB,hE⟩:=h9 hb;obtain⟨k,rfl⟩:∃ j,k=j+1:=⟨k - 1,by omega⟩;rw[Nat.add_sub_cancel]at hB hE;refine⟨.mk h1 g1 g2 g3 g4 h2 h3 (fun y hy=>(h4 y hy).1) g5 qG h8 qj (fun y hy=>(hB y hy).1) (fun y hy=>(hE y hy).1),?_,fun d hd=>?_⟩
  .have h1:=Z9 hB;have h2:=Z9 hE;have h3:=E4 (ZB k) qk;have h4:=E4 (ZB k) qv;rw[Lh,ZB];omega
  .have h1:=Aew (d:=d+1) hB AA;have h2:=Aew (d:=d+1) hE AA;have h3:=E4 (1000*ZB k) qk;have h4:=E4 (1000*ZB k) qv;rw[M3,hb]
   have h5:(if x.els.isEmpty=true then [] else Et d++125::32::101::108::115::101::32::123::10::Sp.txts (d+1) x.els).length<=2*d+9+(Sp.txts (d+1) x.els).length:=by
    split
    .simp
    .simp[K4];omega
   simp only[Aj,K4,if_true,Be,Dn,ZB];omega
/-! settled objects -/
def A33(o:Ob):o.shut.refs=o.refs:=by cases o<;>rfl
theorem Wu:∀ (js:List Nat) (σ:St) (j:Nat),j ∉ js->(σ.freeze js)[j]?=σ[j]?
 | [],_,_,_=>rfl
 | i::js,σ,j,h=>by
  simp only[B7,not_or]at h;simp only[St.freeze]
  split
  .rw[Wu js _ j h.2,B4 (Ne.symm h.1)]
  .exact Wu js _ j h.2
def W6:∀ (js:List Nat) (σ:St),Cl σ->Cl (σ.freeze js)
 | [],_,h=>h
 | i::js,σ,h=>by
  simp only[St.freeze]
  split
  .rename_i ob ho;refine W6 js _ (F4 h ?_);rw[A33];exact h ob (Hg ho)
  .exact W6 js _ h
def Adh{R:V->St->Prop}{f p:Nat}{res:List AR}{thr:Bool}{body:AC}{vs:List V}{σ:St}(hT:TT f=some ⟨p,res,thr,body,none⟩)(hl:vs.length=p)(h:W TT PT [.c body] (C7 0 vs) σ (Hd fun e' σ1=>∃ v,Ca e' σ1 res=some v/\(Cd v=true/\∀ i∈v.refs,i<σ1.length)/\(σ.length<=σ1.length/\Cl σ1)/\R v σ1)):∃ v σ',Bw TT PT f vs σ v σ'/\R v σ':=by
 obtain⟨e',σ1,hE,v,hr,⟨h1,h2⟩,⟨h3,h4⟩,h5⟩:=h;exact⟨v,σ1,Zf hT hl ⟨e',σ1,hE,hr,rfl⟩ h2 h1 h3 h4,h5⟩
def A7n{R:V->St->Prop}{f p:Nat}{res:List AR}{body:AC}{vs:List V}{σ:St}(hT:TT f=some ⟨p,res,true,body,none⟩)(hl:vs.length=p)(h:W TT PT [.c body] (C7 0 vs) σ (Hd fun e' σ1=>∃ cs cs',Ca e' σ1 res=some (.agg cs)/\(cs.all V.cellB=true/\OCs σ1 cs cs'/\cs'.all V.rowB=true)/\(σ.length<=σ1.length/\Cl σ1)/\R (.agg cs') (σ1.freeze (Ah cs)))):∃ v σ',Th TT PT f vs σ v σ'/\R v σ':=by
 obtain⟨e',σ1,hE,cs,cs',hr,⟨h1,h2,h3⟩,⟨h4,h5⟩,h6⟩:=h;have qh:De (.agg cs')=true:=h3;exact⟨.agg cs',σ1.freeze (Ah cs),Bae hT hl ⟨e',σ1,hE,.agg cs,Ah cs,hr,h1,Uj h2 _ (fun i hi=>hi),rfl⟩ (Vz qh) (Zd qh) (by grind[Qj]) (W6 _ _ h5),h6⟩
/-! statements that are made -/
def BK:Nat->Nat
 | 0=>100
 | k+1=>100+4*BK k
def YB:Nat->Nat
 | 0=>1
 | k+1=>1+2*YB k
def SX(k:Nat)(x:Sp):Prop:=x.sz<=YB k/\∀ l∈x.hds,l.length<=302
def SM(k:Nat)(x:Sp):Prop:=(SB k x/\SX k x)/\C6 x.row<=BK k
def Au1:∀ {k k':Nat},k<=k'->YB k<=YB k'
 | 0,0,_=>Am _
 | 0,k'+1,_=>by simp[YB]
 | k+1,k'+1,h=>by
  have:=Au1 (k:=k) (k':=k') AA;simp only[YB];omega
def Aex{k:Nat}:∀ {l:List Sp},(∀ x∈l,SX k x)->Sp.szs l<=l.length*YB k/\∀ y∈Sp.hdss l,y.length<=302
 | [],_=>⟨by simp[Sp.szs],fun y hy=>by cases hy⟩
 | x::l,h=>by
  obtain⟨h1,h2⟩:=Aex (l:=l) fun y hy=>h y (Dl _ hy)
  obtain⟨h3,h4⟩:=h x Cz;refine⟨by rw[Sp.szs,Be,N0];omega,fun y hy=>?_⟩;rw[Sp.hdss]at hy;rcases Cs.1 hy with hy | hy
  .exact h4 y hy
  .exact h2 y hy
def Au2:∀ {k k':Nat},k<=k'->ZB k<=ZB k'
 | 0,0,_=>Am _
 | 0,k'+1,_=>by simp[ZB]
 | k+1,k'+1,h=>by
  have:=Au2 (k:=k) (k':=k') AA
  grind[ZB]
def Ajx:∀ {k k':Nat},k<=k'->BK k<=BK k'
 | 0,0,_=>Am _
 | 0,k'+1,_=>by simp[BK]
 | k+1,k'+1,h=>by
  have:=Ajx (k:=k) (k':=k') AA
  grind[BK]
def Bcc{k k':Nat}{x:Sp}(hk:k<=k')(h:SM k x):SM k' x:=by
 obtain⟨⟨⟨h1,h2,h3⟩,h5,h6⟩,h4⟩:=h;have:=Au1 hk;have:=Au2 hk;have:=Ajx hk;exact⟨⟨⟨h1,by omega,fun d hd=>Dd (h3 d AA) (Nat.mul_le_mul_left _ AA)⟩,by omega,h6⟩,by omega⟩
/-! the maker's locks -/
def Aw0{σ σ2:St}{m b:Nat}{uH vH:V}{H H':List (List UInt8)}(h:MKr σ m b uH H)(th left:Int)(se tx ao lp:Bool)(hl:σ.length<=σ2.length)(hB:∀ j,j<σ.length->j ∉ uH.refs->σ2[j]?=σ[j]?)(g:GS σ2 1 9 vH (H'.map fun x=>[V.str x]))(hr:∀ j∈vH.refs,j∈uH.refs\/σ.length<=j)(hc:Cl σ2):
  MKr (σ2.set m (mO b th left se tx ao lp vH)) m b vH H'/\FW m σ (σ2.set m (mO b th left se tx ao lp vH)):=by
 have hm:=Lt h;have hb:=Ov h.tape;have hf:=H7 h;have qb:Ah [.ptr b 0 0,iV th,iV left,.bool se,.bool tx,.bool ao,.bool lp,vH]=b::vH.refs:=by simp[Ah,V.refs]
 have nv:∀ j∈vH.refs,j≠m/\j≠b:=fun j hj=>by
  rcases hr j hj with h2 | h2
  .exact h.hd j h2
  .omega
 have e2:σ2[m]?=σ[m]?:=hB m hm fun e=>(h.hd m e).1 rfl
 have e3:σ2[b]?=σ[b]?:=hB b hb fun e=>(h.hd b e).2 rfl
 refine⟨⟨⟨th,left,se,tx,ao,lp,Cf AA⟩,?_,h.ne,Ih g fun i hi=>B4 (Ne.symm (nv i hi).1),nv,F4 hc fun i hi=>?_⟩,Akl (τ:=σ2) ⟨hl,fun j hj hn=>?_,fun j hj=>?_⟩ hm fun j hj=>?_⟩
 .obtain⟨z,t,l,a,h1,h2⟩:=h.tape;exact⟨z,t,l,a,by rw[B4 h.ne,e3];exact h1,h2⟩
 .simp only[Ob.refs,qb,B7]at hi;rcases hi with rfl | hi
  .omega
  grind[C0]
 .grind
 .grind[fp]
 grind
def OL(σ0 σ:St)(m:Nat)(u:V)(L:List Sp):Prop:=GS σ 11 100 u (L.map Sp.row)/\∀ j∈u.refs,σ0.length<=j/\j ∉ fp σ m
def Ayh{σ0 σ τ:St}{m:Nat}{u:V}{L:List Sp}(h:OL σ0 σ m u L)(hw:FW m σ τ):OL σ0 τ m u L:=by
 obtain⟨h1,h2⟩:=h;refine⟨Ih h1 fun i hi=>hw.2.1 i (C0 h1 i hi) (h2 i hi).2,fun j hj=>⟨(h2 j hj).1,fun hm=>?_⟩⟩;have:=C0 h1 j hj;rcases hw.2.2 j hm with h3 | h3
 .grind
 .omega
def Bg5{σ0 σ:St}{m b:Nat}{uH u:V}{H:List (List UInt8)}{L:List Sp}(h:OL σ0 σ m u L)(hk:MKr σ m b uH H)(h0:FW m σ0 σ)(ql:m<σ0.length)(x:Sp)(hb:L.length<=1000000):∃ u' σ',Dx 176 (11,100) u (.lst 1 [x.row]) σ=some (u',σ')/\OL σ0 σ' m u' (L++[x])/\MKr σ' m b uH H/\FW m σ0 σ':=by
 obtain⟨h1,h2⟩:=h;have jo:(L.map Sp.row).length=L.length:=Av ..;obtain⟨u',σ',e1,g,hl,hB,hr,hc⟩:=Wg (bytes:=176) (row:=x.row) h1 AA (N5 x) (He x) AA;have hf:=H7 hk
 have nf:∀ i∈fp σ m,i<σ.length/\i ∉ u.refs:=fun i hi=>by
  refine⟨?_,fun e=>(h2 i e).2 hi⟩;rw[hf]at hi;simp only[B7]at hi;rcases hi with rfl | rfl | hi
  .grind[Lt]
  .exact Ov hk.tape
  .exact C0 hk.h i hi
 have kp:∀ i∈fp σ m,σ'[i]?=σ[i]?:=fun i hi=>hB i (nf i hi).1 (nf i hi).2
 have hm:σ'[m]?=σ[m]?:=kp m (by grind);have jb:σ'[b]?=σ[b]?:=kp b (by grind);have qt:fp σ' m=fp σ m:=by unfold fp;rw[hm]
 refine⟨u',σ',e1,⟨by grind,fun j hj=>?_⟩,Qx hk (hc hk.cl) hm ?_ (fun i hi=>kp i (by grind)),Av6 h0 ql hl (fun j hj=>.inr (h2 j hj).1) (fun j hj hn=>hB j hj hn) fun e=>(h2 m e).2 (by grind)⟩
 .rw[qt];rcases hr j hj with h3 | h3
  .grind
  .exact⟨by have:=h0.1;omega,fun e=>by grind⟩
 .obtain⟨z,t,l,a,h1,h2⟩:=hk.tape;exact⟨z,t,l,a,by grind,h2⟩
def MSt(k:Nat):Prop:=∀ (σ:St) (m b:Nat) (uH:V) (H:List (List UInt8)),MKr σ m b uH H->H.length+k<=100->∃ v σ',Th TT PT 70 [.ptr m 0 0,iV (k:Int)] σ v σ'/\(∃ x:Sp,v=.agg x.row/\SM k x)/\(∃ qe,MKr σ' m b qe H)/\FW m σ σ'
def MSs(k:Nat):Prop:=∀ (σ:St) (m b:Nat) (uH:V) (H:List (List UInt8)),MKr σ m b uH H->H.length+k<=100->∀ n:Nat,n<=1000000->∃ v σ',Bw TT PT 39 [.ptr m 0 0,iV (k:Int),iV (n:Int)] σ v σ'/\∃ (L:List Sp) (qe:V),OL σ σ' m v L/\(∀ x∈L,SM k x)/\L.length<=n/\MKr σ' m b qe H/\FW m σ σ'
def Ap4{k:Nat}(hS:MSt k):MSs k:=by
 intro σ m b uH H h hH n hn;have ql:=Lt h;refine Adh T39 rfl ?_;simp only[go_sem];refine Bb (α:=Nat × St × V × V × List Sp) (fun a=>n - a.1) (fun a=>[(0,.ptr m 0 0),(1,iV (k:Int)),(2,iV (n:Int)),(7,a.2.2.1),(8,iV (a.1:Int))]) (fun a=>a.2.1) (fun a=>a.1<=n/\(OL σ a.2.1 m a.2.2.1 a.2.2.2.2/\(∀ x∈a.2.2.2.2,SM k x)/\a.2.2.2.2.length=a.1)/\MKr a.2.1 m b a.2.2.2.1 H/\FW m σ a.2.1) ?_ (0,σ,.nils,uH,[]) ⟨As _,⟨⟨Z3,by simp[V.refs]⟩,by simp,rfl⟩,h,Ajj _ _⟩;rintro⟨i,s,u,vH,L⟩ ⟨hi,⟨hO,hL,qc⟩,hk,hw⟩ ih;simp only at hi hO hL qc hk hw ih;obtain⟨_,left,_,_,_,_,m1⟩:=hk.row;have qq:=J0 hO.1;have qf:∃ v,some u=some v/\(Cd v=true/\∀ i∈v.refs,i<s.length)/\(σ.length<=s.length/\Cl s)/\∃ (L:List Sp) (qe:V),OL σ s m v L/\(∀ x∈L,SM k x)/\L.length<=n/\MKr s m b qe H/\FW m σ s:=⟨u,rfl,⟨by cases u<;>simp[V.cellB]at qq<;>rfl,C0 hO.1⟩,⟨hw.1,hk.cl⟩,L,vH,hO,hL,by omega,hk,hw⟩;refine Ay Bkx ?_;by_cases hc:i<n/\(i=0\/0<left)
 .have f1:((i:Int)<(n:Int))=True:=eq_true AA;obtain⟨_,s2,q2,⟨x,rfl,hx⟩,⟨jn,jh⟩,w2⟩:=hS s m b vH H hk hH;have qZ:=Ayh hO w2;obtain⟨u',s3,ha,ja,ji,w3⟩:=Bg5 qZ jh (F1 hw w2) ql x AA;have qm:=He x;have qo:=Fr x;rw[qo]at q2 qm ha;rcases(show i=0\/(i≠0/\0<left) by omega) with h0 | ⟨h0,hl⟩
  case' inl=>have f2:((i:Int)==0)=true:=by simp[h0]
  case' inr=>have f2:((i:Int)==0)=false:=by simp[h0]
  case' inr=>have f3:((0:Int)<left)=True:=eq_true hl
  case' inl=>simp only[go_sem,m1,f1,f2]
  case' inr=>simp only[go_sem,m1,f1,f2,f3,gt_iff_lt]
  all_goals
   refine Bv q2 ?_;simp only[go_sem,ha,Aw (show i<9223372036854775807 by omega)];refine Ai (ih (i+1,s3,u',jn,L++[x]) AA ⟨by omega,⟨ja,fun y hy=>?_,by grind⟩,ji,w3⟩) rfl
   grind
 .by_cases h1:i<n
  .have f1:((i:Int)<(n:Int))=True:=eq_true AA;have f2:((i:Int)==0)=false:=by simp;omega
   have f3:((0:Int)<left)=False:=eq_false AA;simp only[go_sem,m1,f1,f2,f3,gt_iff_lt];exact qf
  .have f1:((i:Int)<(n:Int))=False:=eq_false AA;simp only[go_sem,m1,f1];exact qf
def Vv(nm:List UInt8)(x:Xp):Fn TT PT 41 [.str nm,.agg (xR x)] (.agg [iV 1,iV 0,.str nm,.str [],.nils,iV x.op,iV x.n,.str x.nm,SL x.z x.t (x.l.map Xp.row),.nils,.nils]):=by
 have qm:=Dy x;rw[Bi x]at qm;refine Bg T41 rfl ?_;simp only[go_sem];exact Gs AB
def Jd{v:V}(h:v.cellB=true):v.cells=[v]/\[v].all V.cellB=true:=⟨by cases v<;>simp[V.cellB]at h<;>rfl,by grind⟩
def A7o{σ:St}{m b:Nat}{uH:V}{H:List (List UInt8)}(h:MKr σ m b uH H)(hH:H.length<=1000)(nm:List UInt8):∃ z:Bool,Th TT PT 115 [.ptr m 0 0,.str nm] σ (.bool z) σ:=by
 obtain⟨_,_,_,_,_,_,m1⟩:=h.row;obtain⟨z,hz⟩:=Alm h.h AA;have ha:=Ws z 0 H nm AA
 suffices hh:∃ v,Th TT PT 115 [.ptr m 0 0,.str nm] σ v σ/\∃ z,v=.bool z by
  grind
 refine Awu T115 rfl ?_;simp only[go_sem,m1];refine Axy (.cons (N8 hz (J0 h.h)) (.cons (Ig rfl) .nil)) ha AH ?_;simp only[go_sem];exact⟨_,rfl,⟨rfl,rfl⟩,⟨[],by simp⟩,_,rfl⟩
structure MW (σ s:St) (m b:Nat) (H:List (List UInt8)):Prop where
 hk:∃ uH,MKr s m b uH H
 fw:FW m σ s
 z:s[σ.length]?=some (sP 0 0 [] [])
 n:σ.length ∉ fp s m
 m0:m<σ.length
def W7{σ s:St}{m b:Nat}{H:List (List UInt8)}(h:MW σ s m b H):σ.length<s.length:=(An.1 h.z).1
theorem Wl{σ s s':St}{m b:Nat}{H:List (List UInt8)}{uH:V}(h:MW σ s m b H)(hk:MKr s' m b uH H)(w:FW m s s'):MW σ s' m b H:=by
 obtain⟨k,n⟩:=Jc w h.z h.n;exact⟨⟨_,hk⟩,F1 h.fw w,k,n,h.m0⟩
def J1{σ s:St}{m b:Nat}{H:List (List UInt8)}(h:MW σ s m b H):∃ (th left:Int) (se tx ao lp:Bool) (uH:V),s[m]?=some (mO b th left se tx ao lp uH) /\
  ∀ (th left:Int) (se tx ao lp:Bool),MW σ (s.set m (mO b th left se tx ao lp uH)) m b H/\FW m s (s.set m (mO b th left se tx ao lp uH)):=by
 obtain⟨uH,hk⟩:=h.hk;obtain⟨th,left,se,tx,ao,lp,hr⟩:=hk.row;refine⟨th,left,se,tx,ao,lp,uH,hr,fun th left se tx ao lp=>?_⟩;obtain⟨h1,h2⟩:=Awy hk th left se tx ao lp
 grind[Wl]
def Wm{σ s:St}{m b:Nat}{H:List (List UInt8)}(h:MW σ s m b H)(n:Nat)(hn:n<=1000000000:=by omega):∃ (r:Nat) (s':St),Bw TT PT 38 [.ptr b 0 0,iV (n:Int)] s (iV (r:Int)) s'/\(r<n\/r=0)/\MW σ s' m b H/\FW m s s'/\s'[m]?=s[m]?:=by
 obtain⟨uH,hk⟩:=h.hk;obtain⟨r,s',q,h1,h2,-,h4,h5⟩:=Qp hk n n rfl hn
 grind[Wl]
def Uh{σ s:St}{m b:Nat}{H:List (List UInt8)}(h:MW σ s m b H)(d:Nat)(hd:d<=5:=by omega):∃ (x:Xp) (s':St),Th TT PT 112 [.ptr m 0 0,iV (d:Int)] s (.agg (xR x)) s'/\MX d x/\MW σ s' m b H/\FW m s s'/\De (.agg (xR x))=true:=by
 obtain⟨uH,hk⟩:=h.hk;obtain⟨_,s',q,⟨x,rfl,hx⟩,h1,h2⟩:=Asl 5 AA d hd s m b uH H hk
 grind[Dy,Bi,Wl]
def Wd{σ s:St}{m b:Nat}{H:List (List UInt8)}(h:MW σ s m b H)(hH:H.length<=1000)(nm:List UInt8):∃ z:Bool,Th TT PT 115 [.ptr m 0 0,.str nm] s (.bool z) s:=by
 obtain⟨uH,hk⟩:=h.hk;exact A7o hk hH nm
def Re(σ s:St)(m:Nat)(u:V)(L:List Sp):Prop:=GS s 11 100 u (L.map Sp.row)/\∀ j∈u.refs,σ.length<j/\j ∉ fp s m
def Q3{σ s s':St}{m:Nat}{u:V}{L:List Sp}(h:Re σ s m u L)(hw:FW m s s'):Re σ s' m u L:=by
 obtain⟨h1,h2⟩:=h;refine⟨Ih h1 fun i hi=>hw.2.1 i (C0 h1 i hi) (h2 i hi).2,fun j hj=>⟨(h2 j hj).1,fun hm=>?_⟩⟩;have:=C0 h1 j hj;rcases hw.2.2 j hm with h3 | h3
 .grind
 .omega
theorem Aw1{s:St}{m j:Nat}{X:Ob}(hj:j≠m):fp (s.set j X) m=fp s m:=by
 grind[fp]
def Aw2{σ s:St}{m j:Nat}{u:V}{L:List Sp}(X:Ob)(h:Re σ s m u L)(hj:j ∉ u.refs)(hm:j≠m):Re σ (s.set j X) m u L:=by
 obtain⟨h1,h2⟩:=h;exact⟨Ih h1 fun i hi=>B4 fun(e:j=i)=>hj (by grind),fun i hi=>⟨(h2 i hi).1,by grind[Aw1]⟩⟩
def Y3{σ s:St}{m b k:Nat}{H:List (List UInt8)}(hS:MSs k)(h:MW σ s m b H)(hH:H.length+k<=100)(n:Nat)(hn:n<=1000000:=by omega):∃ (u:V) (L:List Sp) (s':St),Bw TT PT 39 [.ptr m 0 0,iV (k:Int),iV (n:Int)] s u s'/\Re σ s' m u L/\(u.cells=[u]/\[u].all V.cellB=true/\u.cellB=true/\∀ j∈u.refs,s.length<=j)/\((∀ x∈L,SM k x)/\L.length<=n)/\MW σ s' m b H/\FW m s s':=by
 obtain⟨uH,hk⟩:=h.hk;obtain⟨u,s',q,L,qe,hO,hL,qc,h1,h2⟩:=hS s m b uH H hk hH n hn;have hc:=J0 hO.1;have hl:=W7 h;exact⟨u,L,s',q,⟨hO.1,fun j hj=>⟨by have:=(hO.2 j hj).1;omega,(hO.2 j hj).2⟩⟩,⟨(Jd hc).1,(Jd hc).2,hc,fun j hj=>(hO.2 j hj).1⟩,⟨hL,qc⟩,Wl h h1 h2,h2⟩
def MBl(k:Nat):Prop:=∀ (σ:St) (m b:Nat) (uH:V) (H:List (List UInt8)) (nm:List UInt8),MKr σ m b uH H->H.length+1+k<=100->∃ v σ',Bw TT PT 116 [.ptr m 0 0,.str nm,iV (k:Int)] σ v σ'/\∃ (L:List Sp) (qe:V),OL σ σ' m v L/\(∀ x∈L,SM k x)/\L.length<=2/\MKr σ' m b qe H/\FW m σ σ'
def Adi{σ s:St}{m b k:Nat}{H:List (List UInt8)}(hS:MBl k)(h:MW σ s m b H)(hH:H.length+1+k<=100)(nm:List UInt8):∃ (u:V) (L:List Sp) (s':St),Bw TT PT 116 [.ptr m 0 0,.str nm,iV (k:Int)] s u s'/\Re σ s' m u L/\(u.cells=[u]/\[u].all V.cellB=true/\u.cellB=true/\∀ j∈u.refs,s.length<=j)/\((∀ x∈L,SM k x)/\L.length<=2)/\MW σ s' m b H/\FW m s s':=by
 obtain⟨uH,hk⟩:=h.hk;obtain⟨u,s',q,L,qe,hO,hL,qc,h1,h2⟩:=hS s m b uH H nm hk hH;have hc:=J0 hO.1;have hl:=W7 h;exact⟨u,L,s',q,⟨hO.1,fun j hj=>⟨by have:=(hO.2 j hj).1;omega,(hO.2 j hj).2⟩⟩,⟨(Jd hc).1,(Jd hc).2,hc,fun j hj=>(hO.2 j hj).1⟩,⟨hL,qc⟩,Wl h h1 h2,h2⟩
def Ad2{σ s:St}{m b:Nat}{H:List (List UInt8)}(h:MW σ s m b H)(X:Ob)(hX:∀ i∈X.refs,i<s.length+1):MW σ (s++[X]) m b H/\FW m s (s++[X])/\s.length ∉ fp (s++[X]) m/\(s++[X])[s.length]?=some X/\s.length≠m:=by
 obtain⟨uH,hk⟩:=h.hk;obtain⟨h1,h2⟩:=Ad1 hk [X] (Mk hk.cl hX);have hm:=Lt hk;refine⟨Wl h h1 h2,h2,fun hm=>?_,by simp,by omega⟩;rw[H7 h1,<-H7 hk]at hm;exact Aet (τ:=s) hk (Am _) hm
def Bg6{σ s:St}{m b j:Nat}{H:List (List UInt8)}(h:MW σ s m b H)(X:Ob)(hj:σ.length<j)(hn:j ∉ fp s m)(hX:∀ i∈X.refs,i<s.length):MW σ (s.set j X) m b H:=by
 obtain⟨uH,hk⟩:=h.hk;rw[H7 hk]at hn;simp only[B7,not_or]at hn;refine⟨⟨uH,Qx hk (F4 hk.cl hX) (B4 hn.1) ?_ fun i hi=>B4 fun(e:j=i)=>hn.2.2 (by grind)⟩,Av5 h.fw AA h.m0,by rw[B4 AA];exact h.z,by rw[Aw1 hn.1];exact h.n,h.m0⟩;obtain⟨z,t,l,a,h1,h2⟩:=hk.tape;exact⟨z,t,l,a,by grind,h2⟩
def Bg7{σ s:St}{m b:Nat}{u:V}{H:List (List UInt8)}{L:List Sp}(h:Re σ s m u L)(hk:MW σ s m b H)(x:Sp)(hb:L.length<=1000000):∃ u' s',Dx 176 (11,100) u (.lst 1 [x.row]) s=some (u',s')/\Re σ s' m u' (L++[x])/\(u'.cells=[u']/\[u'].all V.cellB=true/\u'.cellB=true)/\MW σ s' m b H:=by
 obtain⟨uH,qn⟩:=hk.hk;obtain⟨h1,h2⟩:=h;obtain⟨u',s',e1,g,hl,hB,hr,hc⟩:=Wg (bytes:=176) (row:=x.row) h1 AA (N5 x) (He x) (by grind);have hf:=H7 qn
 have nf:∀ i∈fp s m,i<s.length/\i ∉ u.refs:=fun i hi=>by
  refine⟨?_,fun e=>(h2 i e).2 hi⟩;rw[hf]at hi;simp only[B7]at hi;rcases hi with rfl | rfl | hi
  .grind[Lt]
  .exact Ov qn.tape
  .exact C0 qn.h i hi
 have kp:∀ i∈fp s m,s'[i]?=s[i]?:=fun i hi=>hB i (nf i hi).1 (nf i hi).2
 have hm:s'[m]?=s[m]?:=kp m (by grind);have jb:s'[b]?=s[b]?:=kp b (by grind);have qt:fp s' m=fp s m:=by unfold fp;rw[hm]
 refine⟨u',s',e1,⟨by grind,fun j hj=>?_⟩,⟨(Jd (J0 g)).1,(Jd (J0 g)).2,J0 g⟩,⟨uH,Qx qn (hc qn.cl) hm ?_ fun i hi=>kp i (by grind)⟩,Av6 hk.fw hk.m0 hl (fun j hj=>.inr (Rl (h2 j hj).1)) (fun j hj hn=>hB j hj hn) fun e=>(h2 m e).2 (by grind),by rw[hB _ (W7 hk) fun e=>by grind];exact hk.z,by rw[qt];exact hk.n,hk.m0⟩
 .rw[qt];rcases hr j hj with h3 | h3
  .grind
  .exact⟨by have:=W7 hk;omega,fun e=>by grind⟩
 .obtain⟨z,t,l,a,h1,h2⟩:=qn.tape;exact⟨z,t,l,a,by grind,h2⟩
def BSs(σ s:St)(m:Nat)(u:V)(L:List Sp):Prop:=(∃ z t,u=SL z t (L.map Sp.row))\/Re σ s m u L
def Ayi{σ s:St}{m:Nat}{u:V}{L:List Sp}(h:BSs σ s m u L)(X:Ob):∃ z t,OC (s.set σ.length X) u (SL z t (L.map Sp.row))/\u.cellB=true/\(∀ j∈u.refs,σ.length<j/\j ∉ fp s m/\j<s.length):=by
 rcases h with⟨z,t,rfl⟩ | ⟨h1,h2⟩
 .refine⟨z,t,Gb ?_,?_,by grind[N6]⟩
  .grind[Hq]
  .unfold SL;split<;>rfl
 .have h3:GS (s.set σ.length X) 11 100 u (L.map Sp.row):=Ih h1 fun i hi=>B4 (by grind)
  grind[Alm,J0,C0]
set_option maxHeartbeats 1000000 in
def Jh{σ s:St}{m b k:Nat}{H:List (List UInt8)}{e:Env}{uB uE:V}{cs:List V}{op line:Int}{nm arg:List UInt8}{iz:Bool}{it:Nat}{idx:List Xp}{ex:Xp}{LB LE:List Sp}(h:MW σ s m b H)(he:e.get 4=.ptr σ.length 0 0)(hB:BSs σ s m uB LB)(hE:BSs σ s m uE LE)
  (qB:cs=[iV op,iV line,.str nm,.str arg,SL iz it (idx.map Xp.row),iV ex.op,iV ex.n,.str ex.nm,SL ex.z ex.t (ex.l.map Xp.row),uB,uE]) (hS:∀ z t z' t',SM k ⟨op,line,nm,arg,iz,it,idx,ex,z,t,LB,z',t',LE⟩) :
  ∃ cs1 cs',Ca e (s.set σ.length (.row cs 100 0 0)) [.cell 4 11 false]=some (.agg cs1)/\(cs1.all V.cellB=true/\OCs (s.set σ.length (.row cs 100 0 0)) cs1 cs'/\cs'.all V.rowB=true)/\(σ.length<=(s.set σ.length (.row cs 100 0 0)).length/\Cl (s.set σ.length (.row cs 100 0 0))) /\
   ((∃ x:Sp,V.agg cs'=.agg x.row/\SM k x)/\(∃ qe,MKr (St.freeze (s.set σ.length (.row cs 100 0 0)) (Ah cs1)) m b qe H)/\FW m σ (St.freeze (s.set σ.length (.row cs 100 0 0)) (Ah cs1))):=by
 have hl:=W7 h;obtain⟨uH,hk⟩:=h.hk;obtain⟨z1,t1,o1,c1,r1⟩:=Ayi hB (.row cs 100 0 0);obtain⟨z2,t2,o2,c2,r2⟩:=Ayi hE (.row cs 100 0 0);have qQ:V.rowB (SL iz it (idx.map Xp.row))=true:=Hq _ _ _;have qR:V.rowB (SL ex.z ex.t (ex.l.map Xp.row))=true:=Hq _ _ _
 have qb:Ah cs=uB.refs++uE.refs:=by
  rw[qB];simp only[Ah,N6,V.refs,Ct,Bz]
 have jg:∀ j∈Ah cs,σ.length<j/\j ∉ fp s m/\j<s.length:=fun j hj=>by
  grind
 have qA:Cl (s.set σ.length (.row cs 100 0 0)):=F4 hk.cl fun i hi=>(jg i hi).2.2
 have hn:=h.n;have jf:=H7 hk;rw[jf]at hn;simp only[B7,not_or]at hn;have qr:(s.set σ.length (.row cs 100 0 0))[σ.length]?=some (.row cs 100 0 0):=Cf hl
 have qM:∀ j,j∈fp s m->(St.freeze (s.set σ.length (.row cs 100 0 0)) (Ah cs))[j]?=s[j]?:=fun j hj=>by
  grind[Wu]
 have qN:=qM m (by grind);refine⟨cs,(sW op line nm arg iz it idx ex.op ex.n ex.nm ex.z ex.t ex.l z1 t1 LB z2 t2 LE),Va qr he (by simp_all),⟨?_,?_,?_⟩,⟨by grind,qA⟩,⟨⟨op,line,nm,arg,iz,it,idx,ex,z1,t1,LB,z2,t2,LE⟩,by rw[Fr],hS z1 t1 z2 t2⟩,⟨uH,Qx hk (W6 _ _ qA) qN ?_ fun i hi=>qM i (by grind)⟩,?_⟩
 .rw[qB]
  have a1:V.cellB (SL iz it (idx.map Xp.row))=true:=by unfold SL;split<;>rfl
  have a2:V.cellB (SL ex.z ex.t (ex.l.map Xp.row))=true:=by unfold SL;split<;>rfl
  simp only[B5,Dc,a1,a2,c1,c2];rfl
 .conv=>arg 2;rw[qB]
  exact .cons (Gb rfl) (.cons (Gb rfl) (.cons (Gb rfl) (.cons (Gb rfl) (.cons (Gb qQ) (.cons (Gb rfl) (.cons (Gb rfl) (.cons (Gb rfl) (.cons (Gb qR) (.cons o1 (.cons o2 .nil))))))))))
 .have b1:V.rowB (SL z1 t1 (LB.map Sp.row))=true:=Hq _ _ _;have b2:V.rowB (SL z2 t2 (LE.map Sp.row))=true:=Hq _ _ _;simp only[B5,Dc,qQ,qR,b1,b2];rfl
 .obtain⟨z,t,l,a,h1,h2⟩:=hk.tape;exact⟨z,t,l,a,by grind,h2⟩
 .have hw:=h.fw;refine⟨by grind[Qj],fun j hj jj=>?_,fun j hj=>?_⟩
  .rw[Wu _ _ _ fun e=>by grind,B4 AA];exact hw.2.1 j hj jj
  .unfold fp at hj;rw[qN]at hj;exact hw.2.2 j hj
def Jl{k:Nat}{x:Sp}(h1:1<=x.op/\x.op<=15)(h2:x.idx.length<=1)(h3:x.op≠1->x.idx=[])(h4:∀ y∈x.idx,MX 0 y)(h5:(Fe x.op=true/\MX 1 x.ex)\/(Fe x.op=false/\x.ex=Xp.zero))(h6:(Gx x.op=true/\x.nm=[])\/(Gx x.op=false/\L8 x.nm))(h7:(x.op≠15/\x.arg=[])\/(x.op=15/\L8 x.arg))
  (h8:B6 x.op=false->x.body=[]) (qj:x.op≠2->x.els=[]) (h9:B6 x.op=true->k≠0/\(x.body.length<=3/\∀ y∈x.body,SM (k - 1) y)/\(x.els.length<=1/\∀ y∈x.els,SM (k - 1) y)) (qF:x.body.length+x.els.length<=2:=by simp;try omega):SM k x:=by
 have hv:∀ n:Int,(n=1\/n=2\/n=3\/n=14)->Fe n=true:=by
  rintro n (rfl | rfl | rfl | rfl)<;>rfl
 have e0:EB 0=22:=rfl;have e1:EB 1=54:=rfl;have x0:O6 0=12:=rfl;have x1:O6 1=36:=rfl
 have l6:x.nm.length<=4:=by
  rcases h6 with⟨-,h⟩ | ⟨-,-,h⟩
  .rw[h];exact As _
  .exact h
 have l7:x.arg.length<=4:=by
  rcases h7 with⟨-,h⟩ | ⟨-,-,h⟩
  .rw[h];exact As _
  .exact h
 have li:(F6 x.idx).length<=56:=by
  refine Dd (Aiz _) ?_
  cases hx:x.idx with
  | nil=>simp
  | cons a r=>
   have:=(h4 a (by rw[hx];exact Cz)).2.1;simp only;omega
 have lx:x.op=1\/x.op=2\/x.op=3\/x.op=14->x.ex.txt.length<=118:=fun h=>by
  rcases h5 with⟨-,h5⟩ | ⟨h5,-⟩
  .have:=h5.2.1;omega
  .rw[hv _ h]at h5;cases h5
 have qL:(Ee x).length<=302:=by
  have:=Awz l6 l7 li lx;unfold Ee;rw[Aj]
  split<;>simp<;>omega
 have hds:x.hds=Ee x::(Sp.hdss x.body++Sp.hdss x.els):=by cases x;rw[Sp.hds]
 have jk:SX k x:=by
  have hz:1<=YB k:=by cases k<;>simp[YB]
  cases hb:B6 x.op
  .have e1:=h8 hb;have e2:x.els=[]:=qj fun e=>by rw[e]at hb;cases hb
   refine⟨by rw[Lh,e1,e2];simp[Sp.szs];omega,fun l hl=>?_⟩;rw[hds,e1,e2]at hl;simp[Sp.hdss]at hl;rw[hl];exact qL
  .obtain⟨hk,⟨-,b1⟩,-,b2⟩:=h9 hb;obtain⟨s1,s2⟩:=Aex fun y hy=>(b1 y hy).1.2
   obtain⟨s3,s4⟩:=Aex fun y hy=>(b2 y hy).1.2
   have hy:YB k=1+2*YB (k - 1):=by
    cases k with
    | zero=>exact absurd rfl hk
    | succ k=>rfl
   have qX:=E4 (YB (k - 1)) qF;rw[N0]at qX;refine⟨by rw[Lh];omega,fun l hl=>?_⟩;rw[hds]at hl;rcases B7.1 hl with rfl | hl
   .exact qL
   .rcases Cs.1 hl with hl | hl
    .exact s2 l hl
    .exact s4 l hl
 refine⟨⟨Bmu h1 h2 h3 (fun y hy=>⟨(h4 y hy).1,by have:=(h4 y hy).2.1;omega⟩) (fun h=>?_) (fun h=>?_) h6 h7 h8 qj fun h=>?_,jk⟩,?_⟩
 .rcases h5 with⟨-,h5⟩ | ⟨h5,-⟩
  .exact⟨h5.1,by have:=h5.2.1;omega⟩
  .rw[hv _ h]at h5;cases h5
 .rcases h5 with⟨h5,-⟩ | ⟨-,h5⟩
  .rw[h]at h5;cases h5
  .rw[h5];exact⟨rfl,rfl,rfl,rfl⟩
 .obtain⟨a,b,c⟩:=h9 h;exact⟨a,b.1,c.1,fun y hy=>(b.2 y hy).1.1,fun y hy=>(c.2 y hy).1.1⟩
 .have hn:x.nm.length<=4:=by
   rcases h6 with⟨-,h⟩ | ⟨-,h⟩
   .rw[h];simp
   .exact h.2
  have ha:x.arg.length<=4:=by
   rcases h7 with⟨-,h⟩ | ⟨-,h⟩
   .rw[h];simp
   .exact h.2
  have hi:Cx (x.idx.map Xp.row)<=12:=by
   rcases hx:x.idx with _ | ⟨y,r⟩
   .simp[Cx]
   .rw[hx]at h2 h4;have:r=[]:=Mb.1 (by rw[Be]at h2;omega);subst this;have:=(h4 y AE).2.2;simp[Cx];omega
  have he:C6 x.ex.row<=36:=by
   rcases h5 with⟨-,h5⟩ | ⟨-,h5⟩
   .have:=h5.2.2;omega
   .rw[h5,Ha];simp[Xp.zero,Cx]
  rw[Ng];cases hb:B6 x.op
  .have qv:x.els=[]:=qj fun e=>by rw[e]at hb;cases hb
   rw[h8 hb,qv];simp only[B0,Cx];have:BK 0<=BK k:=Ajx (As _);have:BK 0=100:=rfl;omega
  .obtain⟨hk,⟨l1,b1⟩,⟨l2,b2⟩⟩:=h9 hb
   have qs:∀ {l:List Sp},(∀ y∈l,SM (k - 1) y)->Cx (l.map Sp.row)<=l.length*BK (k - 1):=by
    intro l
    induction l with
    | nil=>intro _;simp[Cx]
    | cons y l ih=>
     intro h;have h1:=(h y AE).2;have h2:=ih fun z hz=>h z (by simp[hz])
     rw[Bh,Cx,Be,G6];omega
   have g1:=qs b1;have g2:=qs b2;have g3:x.body.length*BK (k - 1)<=3*BK (k - 1):=E4 _ l1;have g4:x.els.length*BK (k - 1)<=1*BK (k - 1):=E4 _ l2
   have g5:BK k=100+4*BK (k - 1):=by
    cases k with
    | zero=>exact absurd rfl hk
    | succ k=>rfl
   omega
/-! end of the cases -/
/-! end of the cases -/
def declsL:List Dp:=[⟨1,0,[120],0,0,[]⟩,⟨1,0,[121],0,1,[]⟩,⟨2,0,[118],0,0,[]⟩,⟨1,0,[113],2,0,[]⟩,⟨3,0,[109],0,0,[]⟩,⟨3,0,[110],0,0,[]⟩,⟨4,0,[114],0,0,[]⟩,⟨5,0,[99],0,0,[109]⟩,⟨6,0,[102],0,0,[]⟩]
def Ahk:Ah (declsL.map Dp.row).flatten=[]:=by kernel_rfl
def A34:Xl TT PT 37 [] (.sl 0 0 0 9 6 true) [.row (declsL.map Dp.row).flatten 82 0 0]:=by
 have hT:=T37
 obtain⟨F,h1,h2,h3⟩:=Zf (σ:=[]) (vs:=[]) (v:=.sl 0 0 0 9 6 true) (σ':=[.row (declsL.map Dp.row).flatten 82 0 0]) hT rfl (by simp only[go_sem];exact⟨rfl,rfl⟩) AQ rfl (As _) (by
  intro ob qO i hi;simp only[Hh]at qO;subst qO;rw[Ob.refs,Ahk]at hi
  cases hi)
 have e:=h1.symm.trans hT;cases e;exact⟨_,hT,rfl,rfl,h3⟩
def Aow(σ:St):CallS TT PT 37 [] σ (.sl σ.length 0 0 9 6 true) (σ++[.row (declsL.map Dp.row).flatten 82 0 0]):=by
 have h:=CallS.own (σ:=σ) (args:=[]) (Yq rfl) A34
 have e1:own σ [] [.row (declsL.map Dp.row).flatten 82 0 0]=σ++[.row (declsL.map Dp.row).flatten 82 0 0]:=by
  unfold own;rw[Ac6 rfl];simp only[St.freeze,Bh,B0,Ob.ren];rw[Tr _ _ (by rw[Ahk];simp)]
 have e2:(V.sl 0 0 0 9 6 true).ren (·+σ.length)=.sl σ.length 0 0 9 6 true:=by simp[V.ren]
 rw[e1,e2]at h;exact h
def MD(n:Nat)(D:List Dp):Prop:=(∀ d∈D,ShD d/\d.nm.length<=12/\d.on.length<=12)/\D.length<=n
def A35:MD 9 declsL:=by
 refine⟨fun d hd=>?_,by decide⟩;simp only[declsL,B7,Qi,or_false]at hd
 rcases hd with rfl | rfl | rfl | rfl | rfl | rfl | rfl | rfl | rfl<;>exact⟨⟨by decide,by decide,by decide,by decide,by decide⟩,by decide,by decide⟩
def Ff{a b:AC}{k:List It}{e:Env}{σ:St}{Q:Env->St->Prop}(P:Env->St->Prop)(h1:∀ k',(∀ e σ,P e σ->W TT PT k' e σ Q)->W TT PT (.c a::k') e σ Q)(h2:∀ e σ,P e σ->W TT PT (.c b::k) e σ Q):W TT PT (.c (.seq a b)::k) e σ Q:=by
 rw[Alj];exact h1 _ h2
def MT(t:Tp):Prop:=L8 t.nm/\((∀ s∈t.locals,L8 s)/\t.locals.length<=5)/\∃ k,k<=7/\(∀ s∈t.body,SB k s)/\t.body.length<=40
def Ajy{α:Type}{f:α->List UInt8}{M:Nat}:∀ {l:List α},(∀ x∈l,(f x).length<=M)->((l.map f).flatten).length<=l.length*M
 | [],_=>by simp
 | x::l,h=>by
  have h1:=h x Cz;have h2:=Ajy (l:=l) fun y hy=>h y (Dl _ hy)
  rw[Bh,Gv,Aj,Be,G6];omega
def Asm:∀ {l:List (List UInt8)},(∀ s∈l,s.length<=4)->(Fh l).length<=l.length*6
 | [],_=>by simp[Fh]
 | a::l,h=>by
  have h1:=h a Cz;have h2:=Asm (l:=l) fun y hy=>h y (Dl _ hy)
  have h3:=Ap3 a l;rw[Be,G6];omega
def zb7:∀ {k:Nat},k<=7->ZB k<=21845:=by
 intro k hk;have:k=0\/k=1\/k=2\/k=3\/k=4\/k=5\/k=6\/k=7:=by omega
 rcases this with rfl | rfl | rfl | rfl | rfl | rfl | rfl | rfl<;>decide
def Aw3{t:Tp}(h:MT t):(Fx t).length<=900000000/\Sp.szs t.body<=1000000:=by
 obtain⟨h1,⟨h2,h3⟩,k,hk,h4,h5⟩:=h;have z:=zb7 hk;have a1:=Aew (d:=1) h4 AA;have a2:=Z9 h4;have a3:=Asm fun s hs=>(h2 s hs).2
 have a4:t.body.length*ZB k<=40*21845:=Nat.mul_le_mul h5 z;have a5:t.body.length*(1000*ZB k)<=40*(1000*21845):=Nat.mul_le_mul h5 AA;have a6:=h1.2;refine⟨?_,by omega⟩;unfold Fx;simp only[Aj,Be,Dn];omega
def Bmv{D:List Dp}{L:List Tp}(hD:MD 16 D)(hL:∀ t∈L,MT t)(h5:L.length<=5)(h0:L≠[]):ShG ⟨true,0,D,true,0,L⟩/\(Il ⟨true,0,D,true,0,L⟩).length<=10000000000/\∀ t∈L,Sp.szs t.body<=1000000:=by
 refine⟨⟨fun d hd=>(hD.1 d hd).1,fun t ht=>(hL t ht).1.1,fun t ht s hs=>((hL t ht).2.1.1 s hs).1,fun t ht s hs=>?_,h0⟩,?_,fun t ht=>(Aw3 (hL t ht)).2⟩
 .obtain⟨-,-,k,-,h4,-⟩:=hL t ht;exact(h4 s hs).1
 .have a1:=Ajy (f:=fun d:Dp=>F5 d++[59,10]) (M:=82) (l:=D) fun d hd=>by
   have:=Azn (hD.1 d hd).2.1 (hD.1 d hd).2.2;simp only[Aj,Be,Dn];omega
  have a2:=Ajy (f:=Fx) (M:=900000000) (l:=L) fun t ht=>(Aw3 (hL t ht)).1
  have a3:=hD.2;unfold Il;rw[Aj];simp only;omega
def Bcd{ls:List (List UInt8)}(h:(ls.all fun x=>B3 x&&decide (x.length<=4))=true):∀ s∈ls,L8 s:=fun s hs=>by
 have:=Cc.1 h s hs;simp only[Al,decide_eq_true_eq]at this;exact this
set_option maxHeartbeats 2000000 in
def Acv{k:Nat}(hS:MSs k):MBl k:=by
 intro σ m b uH H nm h hH;have ql:=Lt h;obtain⟨th,left,se,tx,ao,lp,m1⟩:=h.row;have n1:(H.map fun x=>[V.str x]).length=H.length:=Av ..;obtain⟨u',s2,e1,g,hl,hB,hr,hc⟩:=Wg (bytes:=16) (row:=[.str nm]) h.h AA rfl rfl AA;have g':GS s2 1 9 u' ((H++[nm]).map fun x=>[V.str x]):=by rw[Fm];exact g
 obtain⟨h2,w2⟩:=Aw0 h th left se tx ao lp hl hB g' hr (hc h.cl);have m2:s2[m]?=some (mO b th left se tx ao lp uH):=(hB m ql fun e=>(h.hd m e).1 rfl).trans m1;obtain⟨jd,jc⟩:=Jd (J0 g);obtain⟨s3,e3⟩:∃ t,t=s2.set m (mO b th left se tx ao lp u'):=⟨_,rfl⟩;rw[<-e3]at h2 w2;have m3:s3[m]?=some (mO b th left se tx ao lp u'):=by rw[e3];exact Cf AA
 obtain⟨r,s4,q4,h4,w4,l4,r4,jx⟩:=Qp h2 2 2 rfl AA;have e4:IntKind.i64.wrap (1+(r:Int))=((1+r:Nat):Int):=by rw[Bo AA];omega
 obtain⟨v,s5,q5,L,jy,hO,hL,hn,h5,w5⟩:=hS s4 m b u' (H++[nm]) h4 (by grind) (1+r) AA;have je:=J0 hO.1;obtain⟨qU,qi,qT,qV,qE,qS,m5⟩:=h5.row;have g5:=h5.h;rw[Fm,Bh,B0]at g5;obtain⟨u6,qP,g6,jv⟩:=Av4 g5;rw[n1]at qP;obtain⟨qz,qy⟩:=Jd (J0 g6);obtain⟨h6,w6⟩:=Aw0 (H':=H) h5 qU qi qT qV qE qS (Am _) (fun _ _ _=>rfl) g6 (fun j hj=>.inl (by grind)) h5.cl;have qx:=Ayh hO w6;have qW:=F1 w2 (F1 w4 (F1 w5 w6));have l5:=Z4 h5.h;rw[Av,Aj,I8]at l5;have e5:IntKind.i64.wrap (((H.length+1:Nat):Int) - 1)=(H.length:Int):=by rw[Bo AA];omega
 have qH:OL σ (s5.set m (mO b qU qi qT qV qE qS u6)) m v L:=⟨qx.1,fun j hj=>⟨by have:=(qx.2 j hj).1;grind,(qx.2 j hj).2⟩⟩;refine Adh T116 rfl ?_;simp only[go_sem,m1,e1,m2,jd,jc];rw[<-e3];simp only[go_sem,m3];refine Aa q4 ?_;simp only[go_sem,e4];refine Aa q5 ?_;simp only[go_sem];refine Ad AD ?_;simp only[go_sem,m5,l5,e5,qP,qz,qy];refine Bd ?_;simp only[go_sem];exact⟨v,rfl,⟨by cases v<;>simp[V.cellB]at je<;>rfl,C0 qH.1⟩,⟨qW.1,h6.cl⟩,L,u6,qH,hL,by omega,h6,qW⟩
