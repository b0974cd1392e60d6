/- Walks: the maker of programs: its state, its expressions. -/
import Derived.Test.YtcoeikinocflnaaGreatDoorIc
set_option linter.all false
namespace Go.Proofs.YtcoeikinocflnaaGreatDoor.KM
open Go
structure MKr (σ:St) (m b:Nat) (uH:V) (H:List (List UInt8)):Prop where
 row:∃ (th left:Int) (se tx ao lp:Bool),σ[m]?=some (.row [.ptr b 0 0,.int .i64 th,.int .i64 left,.bool se,.bool tx,.bool ao,.bool lp,uH] 98 0 0)
 tape:TS σ b
 ne:m≠b
 h:GS σ 1 9 uH (H.map fun x=>[V.str x])
 hd:∀ j∈uH.refs,j≠m/\j≠b
 cl:Cl σ
theorem H3{σ:St}{m b:Nat}{uH:V}{H:List (List UInt8)}(h:MKr σ m b uH H):m<σ.length:=by
 obtain⟨_,_,_,_,_,_,hr⟩:=h.row;exact(Ar.1 hr).1
theorem Fx{σ:St}{m b:Nat}{uH:V}{H:List (List UInt8)}(h:MKr σ m b uH H):fp σ m=m::(b::uH.refs):=by
 obtain⟨_,_,_,_,_,_,hr⟩:=h.row;rw[Aci hr];simp[Aj,V.refs]
theorem Mw{σ τ:St}{m b:Nat}{uH:V}{H:List (List UInt8)}(h:MKr σ m b uH H)(hc:Cl τ)(hm:τ[m]?=σ[m]?)(hb:TS τ b)(hk:∀ i∈uH.refs,τ[i]?=σ[i]?):MKr τ m b uH H:=by
 obtain⟨a1,a2,a3,a4,a5,a6,hr⟩:=h.row;exact⟨⟨a1,a2,a3,a4,a5,a6,by rw[hm];exact hr⟩,hb,h.ne,F5 h.h hk,h.hd,hc⟩
theorem X0{σ:St}{m b:Nat}{uH:V}{H:List (List UInt8)}(h:MKr σ m b uH H)(l:St)(hc:Cl (σ++l)):MKr (σ++l) m b uH H/\FW m σ (σ++l):=
 ⟨Mw h hc (Co (H3 h)) (Auj h.tape) fun i hi=>Co (Ch h.h i hi),Xr _ (H3 h)⟩
theorem Au4{σ τ:St}{b:Nat}(hc:Cl σ)(hw:TW σ τ b)(hl:τ.length=σ.length):Cl τ:=by
 intro ob hm j hj;obtain⟨i,hi,rfl⟩:=Ng hm;by_cases hb:i=b
 ·subst hb;obtain⟨z,t,l,a,h1,-⟩:=hw.2.2.1;have:=(Ar.1 h1).2;rw[this,Afj]at hj;cases hj
 ·have h2:=hw.2.1 i (by omega) hb;rw[A0 hi,A0 (by omega)]at h2;rw[Nh h2]at hj;rw[hl];exact hc _ (Fa _) j hj
theorem Mp{σ:St}{m b:Nat}{uH:V}{H:List (List UInt8)}(h:MKr σ m b uH H)(n:Nat)(N:Int)(hN:N=n)(hn:n<=1000000000):∃ (r:Nat) (σ':St),Bp TT PT 51 [.ptr b 0 0,.int .i64 N] σ (.int .i64 (r:Int)) σ'/\MKr σ' m b uH H/\FW m σ σ'/\σ'.length=σ.length/\(r<n\/r=0)/\σ'[m]?=σ[m]?:=by
 subst hN;obtain⟨r,σ',h1,h2,h3,h4,-,-⟩:=Aq3 h.tape n hn;have hf:=Fx h;have km:=h2.2.1 m (H3 h) h.ne;refine⟨r,σ',h1,Mw h (Au4 h.cl h2 h3) km h2.2.2.1 fun i hi=>h2.2.1 i (Ch h.h i hi) (h.hd i hi).2,⟨by omega,fun j hj hn=>h2.2.1 j hj fun e=>hn (by rw[hf,e];simp),fun j hj=>?_⟩,h3,h4,km⟩;unfold fp at hj ⊢;rw[km]at hj;exact .inl hj
theorem Aks{σ:St}{m b:Nat}{uH:V}{H:List (List UInt8)}(h:MKr σ m b uH H)(th left:Int)(se tx ao lp:Bool):MKr (σ.set m (.row [.ptr b 0 0,.int .i64 th,.int .i64 left,.bool se,.bool tx,.bool ao,.bool lp,uH] 98 0 0)) m b uH H/\FW m σ (σ.set m (.row [.ptr b 0 0,.int .i64 th,.int .i64 left,.bool se,.bool tx,.bool ao,.bool lp,uH] 98 0 0)):=by
 have hm:=H3 h;have hf:=Fx h;have hrefs:Aj [.ptr b 0 0,.int .i64 th,.int .i64 left,.bool se,.bool tx,.bool ao,.bool lp,uH]=b::uH.refs:=by simp[Aj,V.refs]
 refine⟨⟨⟨th,left,se,tx,ao,lp,B8 hm⟩,?_,h.ne,F5 h.h fun i hi=>Bc (Ne.symm (h.hd i hi).1),h.hd,Ge h.cl fun i hi=>?_⟩,Acj (Xq _ _) hm fun j hj=>?_⟩
 ·obtain⟨z,t,l,a,h1,h2⟩:=h.tape;exact⟨z,t,l,a,by rw[Bc h.ne];exact h1,h2⟩
 ·simp only[Ob.refs,hrefs,Be]at hi;rcases hi with rfl | hi
  ·exact L0 h.tape
  ·exact Ch h.h i hi
 ·rw[hrefs]at hj;rw[hf];exact .inl (Dz _ hj)
theorem Yh{σ τ:St}{m b:Nat}{uH:V}{H:List (List UInt8)}{j:Nat}(h:MKr σ m b uH H)(hj:σ.length<=j):j ∉ fp σ m:=fun hm=>by
 rw[Fx h]at hm;simp only[Be]at hm;rcases hm with rfl | rfl | hm
 ·have:=H3 h;omega
 ·have:=L0 h.tape;omega
 ·have:=Ch h.h j hm;omega
theorem Gu{σ τ:St}{m j:Nat}{x:Ob}(hw:FW m σ τ)(hj:σ[j]?=some x)(hn:j ∉ fp σ m):τ[j]?=some x/\j ∉ fp τ m:=by
 have hl:=(Ar.1 hj).1;refine⟨by rw[hw.2.1 j hl hn];exact hj,fun hm=>?_⟩;rcases hw.2.2 j hm with h2 | h2
 ·exact hn h2
 ·omega
theorem Yi{T:Nat->Option AF}{pr:Nat->Option (List V->Option V)}{f:Nat}{vs:List V}{σ σ':St}{v:V}(h:Th T pr f vs σ v σ'):Bp T pr f vs σ v σ':=
 let ⟨F,h1,_,h2,h3⟩:=h
 ⟨F,h1,h2,h3⟩
theorem Ao4{j:Nat}(hj:j<6):∃ op:Int,([[V.int .i64 6],[V.int .i64 7],[V.int .i64 8],[V.int .i64 11],[V.int .i64 13],[V.int .i64 17]]:List (List V))[j]?=some [.int .i64 op]/\(6<=op/\op<=18):=by
 rcases(show j=0\/j=1\/j=2\/j=3\/j=4\/j=5 by omega) with rfl | rfl | rfl | rfl | rfl | rfl
 ·exact⟨6,rfl,by omega⟩
 ·exact⟨7,rfl,by omega⟩
 ·exact⟨8,rfl,by omega⟩
 ·exact⟨11,rfl,by omega⟩
 ·exact⟨13,rfl,by omega⟩
 ·exact⟨17,rfl,by omega⟩
theorem Au5(n:Int):Fn TT PT 55 [.int .i64 n] (.agg (Xp.row ⟨1,n,[],true,0,[]⟩)):=by
 refine Bn T55 rfl ?_;simp only[go_sem];exact Ek rfl
theorem Y2(nm:List UInt8):Fn TT PT 130 [.str nm] (.agg [.int .i64 2,.int .i64 0,.str nm,.nils]):=by
 have h:=Aq4 nm;rw[Ax]at h;exact h
theorem Zg(n:Int):Fn TT PT 55 [.int .i64 n] (.agg [.int .i64 1,.int .i64 n,.str [],.nils]):=by
 have h:=Au5 n;rw[Ax]at h;exact h
def J4:Nat->Nat
 | 0=>12
 | d+1=>2*J4 d+12
def MX(d:Nat)(x:Xp):Prop:=ShE x/\x.txt.length<=EB d/\Ct x.row<=J4 d
def MXp(d m b:Nat)(uH:V)(H:List (List UInt8))(σ:St):Prop:=∃ v σ',Th TT PT 128 [.ptr m 0 0,.int .i64 (d:Int)] σ v σ'/\(∃ x:Xp,v=.agg x.row/\MX d x)/\MKr σ' m b uH H/\FW m σ σ'
theorem Yj(d:Nat):12<=J4 d:=by
 cases d<;>simp[J4]
theorem Ah5{d:Nat}(h:d≠0):J4 d=2*J4 (d - 1)+12:=by
 cases d with
 | zero=>exact absurd rfl h
 | succ d=>rfl
theorem Afo{d:Nat}(hd:d<=5)(ih:∀ d',d≠0->d'<=d - 1->∀ σ m b uH H,MKr σ m b uH H->MXp d' m b uH H σ){σ:St}{m b:Nat}{uH:V}{H:List (List UInt8)}(h:MKr σ m b uH H):MXp d m b uH H σ:=by
 have hm0:=H3 h
 suffices hh:∃ v σ',Th TT PT 128 [.ptr m 0 0,.int .i64 (d:Int)] σ v σ'/\((∃ x:Xp,v=.agg x.row/\MX d x)/\MKr σ' m b uH H/\FW m σ σ') from hh
 refine Aby T128 rfl ?_;have z0:Cl (σ++[.row [.int .i64 0,.int .i64 0,.str [],.nils] 103 0 0]):=Gv h.cl rfl;obtain⟨s1,e1⟩:∃ s1:St,s1=σ++[.row [.int .i64 0,.int .i64 0,.str [],.nils] 103 0 0]:=⟨_,rfl⟩;obtain⟨h1,w1⟩:=X0 h [.row [.int .i64 0,.int .i64 0,.str [],.nils] 103 0 0] z0;rw[<-e1]at h1 w1;have k1:s1[σ.length]?=some (.row [.int .i64 0,.int .i64 0,.str [],.nils] 103 0 0):=by rw[e1];simp
 have n1:σ.length ∉ fp s1 m:=fun hm=>by
  rw[Fx h1,<-Fx h]at hm;exact Yh (τ:=σ) h (Ah _) hm
 obtain⟨_,_,_,_,_,_,m1⟩:=h1.row;obtain⟨k,s2,q2,h2,w2,l2,r2,m2⟩:=Mp h1 10 10 rfl (by omega);have hk:k<10:=by omega
 obtain⟨k2,n2⟩:=Gu w2 k1 n1;rw[m1]at m2;have m2':=m2;have w12:=Ee w1 w2;rw[e1]at q2 m1
 have fin:∀ (e:Env) (s:St) (x:Xp),e.get 4=.ptr σ.length 0 0->MX d x->MKr s m b uH H->FW m σ s->s[σ.length]?=some (.row [.int .i64 0,.int .i64 0,.str [],.nils] 103 0 0)->σ.length ∉ fp s m ->
   ∃ v,B6 e (s.set σ.length (.row x.row 103 0 0)) [.cell 4 4 false]=some v/\(Cc v=true/\v.refs=[])/\(σ.length<=(s.set σ.length (.row x.row 103 0 0)).length/\Cl (s.set σ.length (.row x.row 103 0 0)))/\((∃ x:Xp,v=.agg x.row/\MX d x)/\MKr (s.set σ.length (.row x.row 103 0 0)) m b uH H/\FW m σ (s.set σ.length (.row x.row 103 0 0))):=fun e s x he hx hs hw hk hn=>by
  have hl:=(Ar.1 hk).1;have hc:Cl (s.set σ.length (.row x.row 103 0 0)):=Ge hs.cl (by simp only[Ob.refs,Ll (C7 x)];simp);rw[Fx hs]at hn;simp only[Be,not_or]at hn;refine⟨.agg x.row,Sj (B8 hl) he (Aqh x),Ax7 (C7 x),⟨by simpa using hw.1,hc⟩,⟨x,rfl,hx⟩,Mw hs hc (Bc hn.1) ?_ (fun i hi=>Bc fun(e:σ.length=i)=>hn.2.2 (by rw[e];exact hi)),Akh hw (Ah _) hm0⟩;obtain⟨z,t,l,a,h1,h2⟩:=hs.tape;exact⟨z,t,l,a,by rw[Bc hn.2.1];exact h1,h2⟩
 simp only[go_sem,m1];refine Ac q2 ?_;have hcase:(k<2\/(¬ k<2/\d=0/\7<=k))\/(2<=k/\k<7)\/(d≠0/\k=7)\/(d≠0/\8<=k):=by omega
 rcases hcase with hA | hB | hC | hD
 ·obtain⟨j,s3,q3,h3,w3,l3,r3,m3⟩:=Mp h2 4 4 rfl (by omega);obtain⟨k3,n3⟩:=Gu w3 k2 n2;rcases hA with h4 | ⟨h4,h0,h10⟩
  case' inl=>have f1:((k:Int)<2)=True:=eq_true (by omega)
  case' inr=>have f1:((k:Int)<2)=False:=eq_false (by omega)
  case' inr=>have f2:((d:Int)==0)=true:=by simp[h0]
  case' inr=>have f3:((7:Int)<=(k:Int))=True:=eq_true (by omega)
  case' inl=>simp only[go_sem,m2,f1]
  case' inr=>simp only[go_sem,m2,f1,f2,f3,ge_iff_le]
  all_goals
   refine Ac q3 ?_;simp only[go_sem];refine Ad (Zg _) rfl ?_;simp only[go_sem,k3];have hrr:Xp.row ⟨1,j,[],true,0,[]⟩=[.int .i64 1,.int .i64 (j:Int),.str [],.nils]:=by rw[Ax];rfl
   rw[<-hrr];refine fin _ s3 ⟨1,j,[],true,0,[]⟩ (by rfl) ⟨.num (by omega),?_,?_⟩ h3 (Ee w12 w3) k3 n3
   ·rw[Ed];have:=Rc (j:Int);have:=Y0 d;simp only[Di,if_true];omega
   ·rw[Fg];have:=Yj d;simp[Ck];omega
 ·obtain⟨j,s3,q3,h3,w3,l3,r3,m3⟩:=Mp h2 7 7 rfl (by omega);obtain⟨k3,n3⟩:=Gu w3 k2 n2;obtain⟨nm,hn,hnl⟩:=T0 [[97],[98],[120],[121],[118],[120],[121]] (by kernel_rfl) (j:=j) (by simp;omega);simp only[Ba,Bs]at hn;have f1:((k:Int)<2)=False:=eq_false (by omega);have f4:((k:Int)<7)=True:=eq_true (by omega);have f3:((7:Int)<=(k:Int))=False:=eq_false (by omega);cases f2:((d:Int)==0)
  all_goals
   simp only[go_sem,m2,f1,f2,f3,f4,ge_iff_le];refine Ac q3 ?_;simp only[go_sem,hn];refine Ad (Y2 nm) rfl ?_;simp only[go_sem,k3];have hrr:Xp.row ⟨2,0,nm,true,0,[]⟩=[.int .i64 2,.int .i64 0,.str nm,.nils]:=by rw[Ax];rfl
   rw[<-hrr];refine fin _ s3 ⟨2,0,nm,true,0,[]⟩ (by rfl) ⟨.name hnl.1,?_,?_⟩ h3 (Ee w12 w3) k3 n3
   ·rw[Ed];have:=Y0 d;have:=hnl.2;simp only[Di,show((2:Int)=1)=False from eq_false (by omega),if_false,if_true];omega
   ·rw[Fg];have:=Yj d;have:=hnl.2;simp[Ck];omega
 ·obtain⟨hd0,rfl⟩:=hC;obtain⟨_,s3,q3,⟨x,rfl,hx⟩,h3,w3⟩:=ih 0 hd0 (by omega) s2 m b uH H h2;obtain⟨k3,n3⟩:=Gu w3 k2 n2;rw[show(((0:Nat):Int))=0 from rfl]at q3;have f2:((d:Int)==0)=false:=by simp[hd0]
  have hxs:=C7 x;have hxr:=Ax x;rw[hxr]at q3 hxs;simp only[go_sem,m2,f2,Cp,Int.reduceBEq,Int.reduceLT];refine B5 q3 ?_;simp only[go_sem,k3];have hrr:Xp.row ⟨3,0,[113],true,1,[x]⟩=[.int .i64 3,.int .i64 0,.str [113],.lst 1 [[.int .i64 x.op,.int .i64 x.n,.str x.nm,SL x.z x.t (x.l.map Xp.row)]]]:=by rw[Ax];simp only[Ba,Bs,hxr];rfl
  rw[<-hrr];refine fin _ s3 ⟨3,0,[113],true,1,[x]⟩ (by rfl) ⟨.idx (by kernel_rfl) hx.1,?_,?_⟩ h3 (Ee w12 w3) k3 n3
  ·rw[Ed];have:=Ajb hd0;have:=hx.2.1;have:EB 0<=EB (d - 1):=Y0 _;simp[Di];omega
  ·rw[Fg];have:=Ah5 hd0;have:=hx.2.2;have:J4 0<=J4 (d - 1):=Yj _;simp[Ck];omega
 ·obtain⟨hd0,h8⟩:=hD;obtain⟨j,s3,q3,h3,w3,l3,r3,m3⟩:=Mp h2 6 6 rfl (by omega);obtain⟨k3,n3⟩:=Gu w3 k2 n2;obtain⟨op,ho,hop⟩:=Ao4 (j:=j) (by omega);obtain⟨_,s4,q4,⟨x,rfl,hx⟩,h4,w4⟩:=ih (d - 1) hd0 (by omega) s3 m b uH H h3;obtain⟨k4,n4⟩:=Gu w4 k3 n3;obtain⟨_,s5,q5,⟨y,rfl,hy⟩,h5,w5⟩:=ih (d - 1) hd0 (by omega) s4 m b uH H h4;obtain⟨k5,n5⟩:=Gu w5 k4 n4;have f1:((k:Int)<2)=False:=eq_false (by omega);have f2:((d:Int)==0)=false:=by simp[hd0]
  have f4:((k:Int)<7)=False:=eq_false (by omega);have f5:((k:Int)==7)=false:=by simp;omega
  have e3:IntKind.i64.wrap ((d:Int) - 1)=((d - 1:Nat):Int):=by rw[Ef (by omega)];omega
  have hbn:=Aja op x y;have hxs:=C7 x;have hys:=C7 y;have hxr:=Ax x;have hyr:=Ax y;have hrr:Xp.row ⟨op,0,[],true,1,[x,y]⟩=[.int .i64 op,.int .i64 0,.str [],.lst 1 [x.row,y.row]]:=by rw[Ax];rfl
  have hr0:=hrr;rw[hrr]at hbn;rw[hxr]at q4 hxs hbn hrr;rw[hyr]at q5 hys hbn hrr;simp only[go_sem,m2,f1,f2,f4,f5];refine Ag (by kernel_rfl) ?_;simp only[go_sem,m2];refine F1 q3 ?_;simp only[go_sem,ho];refine wgR ?_;simp only[go_sem,e3];refine F1 (Yi q4) ?_;simp only[go_sem,e3];refine F1 (Yi q5) ?_;simp only[go_sem];refine Bf hbn (by simp only[go_sem]) ?_;simp only[go_sem,k5];refine Ay ?_;simp only[go_sem];rw[<-hrr];refine fin _ s5 ⟨op,0,[],true,1,[x,y]⟩ (by rfl) ⟨.bin (by omega) hx.1 hy.1,?_,?_⟩ h5 (Ee w12 (Ee w3 (Ee w4 w5))) k5 n5
  ·rw[Ed];have:=Ajb hd0;have h2:=(Kz (x.op,x.txt) (F6 op)).2;have h2':=(Kz (y.op,y.txt) (Bj op+1)).2;simp only at h2 h2';have h3:(Cd op).length<=2:=Ajc _
   have h0:Di op 0 [] [(x.op,x.txt),(y.op,y.txt)]=Dg (x.op,x.txt) (F6 op)++32::(Cd op++32::Dg (y.op,y.txt) (Bj op+1)):=by
    unfold Di;rw[if_neg (by omega),if_neg (by omega)]
   have:=hx.2.1;have:=hy.2.1;simp only[Ba,Bs,h0,Ao,Am];omega
  ·rw[Fg];have:=Ah5 hd0;have:=hx.2.2;have:=hy.2.2;simp[Ck];omega
theorem Ah6:∀ (d:Nat),d<=5->∀ (d':Nat),d'<=d->∀ (σ:St) (m b:Nat) (uH:V) (H:List (List UInt8)),MKr σ m b uH H->MXp d' m b uH H σ
 | 0,hd,d',hd',σ,m,b,uH,H,h=>by
  obtain rfl:d'=0:=by omega
  exact Afo hd (fun _ h0 _=>absurd rfl h0) h
 | d+1,hd,d',hd',σ,m,b,uH,H,h=>Afo (by omega) (fun d2 h0 h2 σ m b uH H h=>Ah6 d (by omega) d2 (by omega) σ m b uH H h) h
