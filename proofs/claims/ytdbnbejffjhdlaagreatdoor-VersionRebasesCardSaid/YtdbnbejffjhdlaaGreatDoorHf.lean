/- Walks: loose programs. -/
import Derived.Test.YtdbnbejffjhdlaaGreatDoorId
set_option linter.all false
namespace Go.Proofs.YtdbnbejffjhdlaaGreatDoor.KM
open Go
def declsL:List Dp:=[⟨1,0,[120],0,0,[]⟩,⟨1,0,[121],0,1,[]⟩,⟨2,0,[118],0,0,[]⟩,⟨1,0,[113],2,0,[]⟩,⟨3,0,[109],0,0,[]⟩,⟨3,0,[110],0,0,[]⟩,⟨4,0,[114],0,0,[]⟩,⟨5,0,[99],0,0,[109]⟩,⟨6,0,[102],0,0,[]⟩]
def Ah0:Ah (declsL.map Dp.row).flatten=[]:=by kernel_rfl
def A4j:Vt TT PT 40 [] (.sl 0 0 0 9 6 true) [.row (declsL.map Dp.row).flatten 86 0 0]:=by
 have hT:=T40
 obtain⟨F,h1,h2,h3⟩:=Uu (σ:=[]) (vs:=[]) (v:=.sl 0 0 0 9 6 true) (σ':=[.row (declsL.map Dp.row).flatten 86 0 0]) hT rfl (by simp only[go_sem];exact⟨rfl,rfl⟩) AS rfl (Av _) (by
  intro ob qH i hi;simp only[D4]at qH;subst qH;rw[Ob.refs,Ah0]at hi
  cases hi)
 have e:=h1.symm.trans hT;cases e;exact⟨_,hT,rfl,rfl,h3⟩
def Apa(σ:St):CallS TT PT 40 [] σ (.sl σ.length 0 0 9 6 true) (σ++[.row (declsL.map Dp.row).flatten 86 0 0]):=by
 have h:=CallS.own (σ:=σ) (args:=[]) (Wp rfl) A4j
 have e1:own σ [] [.row (declsL.map Dp.row).flatten 86 0 0]=σ++[.row (declsL.map Dp.row).flatten 86 0 0]:=by
  unfold own;rw[Za rfl];simp only[St.freeze,A2,Bz,Ob.ren];rw[R8 _ _ (by rw[Ah0];simp)]
 have e2:(V.sl 0 0 0 9 6 true).ren (·+σ.length)=.sl σ.length 0 0 9 6 true:=by simp[V.ren]
 rw[e1,e2]at h;exact h
def MD(n:Nat)(D:List Dp):Prop:=(∀ d∈D,ShD d/\d.nm.length<=12/\d.on.length<=12)/\D.length<=n
def A4k:MD 9 declsL:=by
 refine⟨fun d hd=>?_,by decide⟩;simp only[declsL,Bo,Of,or_false]at hd
 rcases hd with rfl | rfl | rfl | rfl | rfl | rfl | rfl | rfl | rfl<;>exact⟨⟨by decide,by decide,by decide,by decide,by decide⟩,by decide,by decide⟩
def Ix{a b:AC}{k:List It}{e:Env}{σ:St}{Q:Env->St->Prop}(P:Env->St->Prop)(h1:∀ k',(∀ e σ,P e σ->W TT PT k' e σ Q)->W TT PT (.c a::k') e σ Q)(h2:∀ e σ,P e σ->W TT PT (.c b::k) e σ Q):W TT PT (.c (.seq a b)::k) e σ Q:=by
 rw[Alw];exact h1 _ h2
def MT(t:Tp):Prop:=Mg t.nm/\((∀ s∈t.locals,Mg s)/\t.locals.length<=5)/\∃ k,k<=7/\(∀ s∈t.body,SB k s)/\t.body.length<=40
def Akh{α:Type}{f:α->List UInt8}{M:Nat}:∀ {l:List α},(∀ x∈l,(f x).length<=M)->((l.map f).flatten).length<=l.length*M
 | [],_=>by simp
 | x::l,h=>by
  have h1:=h x Cr;have h2:=Akh (l:=l) fun y hy=>h y (Db _ hy)
  rw[A2,Fe,Aq,Bg,F1];omega
def As4:∀ {l:List (List UInt8)},(∀ s∈l,s.length<=4)->(Fj l).length<=l.length*6
 | [],_=>by simp[Fj]
 | a::l,h=>by
  have h1:=h a Cr;have h2:=As4 (l:=l) fun y hy=>h y (Db _ hy)
  have h3:=Aqf a l;rw[Bg,F1];omega
def zb7:∀ {k:Nat},k<=7->ZB k<=21845:=by
 intro k hk;have:k=0\/k=1\/k=2\/k=3\/k=4\/k=5\/k=6\/k=7:=by omega
 rcases this with rfl | rfl | rfl | rfl | rfl | rfl | rfl | rfl<;>decide
def Axf{t:Tp}(h:MT t):(Fw t).length<=900000000/\Sp.szs t.body<=1000000:=by
 obtain⟨h1,⟨h2,h3⟩,k,hk,h4,h5⟩:=h;have z:=zb7 hk;have a1:=Afc (d:=1) h4 AA;have a2:=Aan h4;have a3:=As4 fun s hs=>(h2 s hs).2
 have a4:t.body.length*ZB k<=40*21845:=Nat.mul_le_mul h5 z;have a5:t.body.length*(1000*ZB k)<=40*(1000*21845):=Nat.mul_le_mul h5 AA;have a6:=h1.2;refine⟨?_,by omega⟩;unfold Fw;simp only[Aq,Bg,Dq];omega
def Bnk{D:List Dp}{L:List Tp}(hD:MD 16 D)(hL:∀ t∈L,MT t)(h5:L.length<=5)(h0:L≠[]):ShG ⟨true,0,D,true,0,L⟩/\(Ij ⟨true,0,D,true,0,L⟩).length<=10000000000/\∀ t∈L,Sp.szs t.body<=1000000:=by
 refine⟨⟨fun d hd=>(hD.1 d hd).1,fun t ht=>(hL t ht).1.1,fun t ht s hs=>((hL t ht).2.1.1 s hs).1,fun t ht s hs=>?_,h0⟩,?_,fun t ht=>(Axf (hL t ht)).2⟩
 .obtain⟨-,-,k,-,h4,-⟩:=hL t ht;exact(h4 s hs).1
 .have a1:=Akh (f:=fun d:Dp=>F6 d++[59,10]) (M:=82) (l:=D) fun d hd=>by
   have:=Azv (hD.1 d hd).2.1 (hD.1 d hd).2.2;simp only[Aq,Bg,Dq];omega
  have a2:=Akh (f:=Fw) (M:=900000000) (l:=L) fun t ht=>(Axf (hL t ht)).1
  have a3:=hD.2;unfold Ij;rw[Aq];simp only;omega
def Bcz{ls:List (List UInt8)}(h:(ls.all fun x=>B0 x&&decide (x.length<=4))=true):∀ s∈ls,Mg s:=fun s hs=>by
 have:=B6.1 h s hs;simp only[Ak,decide_eq_true_eq]at this;exact this
structure MKr (σ:St) (m b:Nat) (uH:V) (H:List (List UInt8)):Prop where
 row:∃ (th left:Int) (se tx ao lp:Bool),σ[m]?=some (mO b th left se tx ao lp uH)
 tape:TS σ b
 ne:m≠b
 h:GS σ 1 9 uH (H.map fun x=>[V.str x])
 hd:∀ j∈uH.refs,j≠m/\j≠b
 cl:Cl σ
def Lg{σ:St}{m b:Nat}{uH:V}{H:List (List UInt8)}(h:MKr σ m b uH H):m<σ.length:=by
 obtain⟨_,_,_,_,_,_,hr⟩:=h.row;exact(Al.1 hr).1
def Ia{σ:St}{m b:Nat}{uH:V}{H:List (List UInt8)}(h:MKr σ m b uH H):fp σ m=m::(b::uH.refs):=by
 obtain⟨_,_,_,_,_,_,hr⟩:=h.row;rw[Ale hr];simp[Ah,V.refs]
def Ra{σ τ:St}{m b:Nat}{uH:V}{H:List (List UInt8)}(h:MKr σ m b uH H)(hc:Cl τ)(hm:τ[m]?=σ[m]?)(hb:TS τ b)(hk:∀ i∈uH.refs,τ[i]?=σ[i]?):MKr τ m b uH H:=by
 obtain⟨a1,a2,a3,a4,a5,a6,hr⟩:=h.row;exact⟨⟨a1,a2,a3,a4,a5,a6,by rw[hm];exact hr⟩,hb,h.ne,Ig h.h hk,h.hd,hc⟩
def Aer{σ:St}{m b:Nat}{uH:V}{H:List (List UInt8)}(h:MKr σ m b uH H)(l:St)(hc:Cl (σ++l)):MKr (σ++l) m b uH H/\FW m σ (σ++l):=
 ⟨Ra h hc (C3 (Lg h)) (Bcj h.tape) fun i hi=>C3 (Cv h.h i hi),Aem _ (Lg h)⟩
def Bc0{σ τ:St}{b:Nat}(hc:Cl σ)(hw:TW σ τ b)(hl:τ.length=σ.length):Cl τ:=by
 intro ob hm j hj;obtain⟨i,hi,rfl⟩:=M7 hm;by_cases hb:i=b
 .subst hb;obtain⟨z,t,l,a,h1,-⟩:=hw.2.2.1;have:=(Al.1 h1).2;rw[this,Ao7]at hj;cases hj
 .have h2:=hw.2.1 i AA hb;rw[Cd hi,Cd AA]at h2;rw[Iu h2]at hj;rw[hl];exact hc _ (N9 _) j hj
def Q2{σ:St}{m b:Nat}{uH:V}{H:List (List UInt8)}(h:MKr σ m b uH H)(n:Nat)(N:Int)(hN:N=n)(hn:n<=1000000000):∃ (r:Nat) (σ':St),Bt TT PT 41 [.ptr b 0 0,iV N] σ (iV (r:Int)) σ'/\MKr σ' m b uH H/\FW m σ σ'/\σ'.length=σ.length/\(r<n\/r=0)/\σ'[m]?=σ[m]?:=by
 subst hN;obtain⟨r,σ',h1,h2,h3,h4,-,-⟩:=Asr h.tape n hn;have hf:=Ia h;have km:=h2.2.1 m (Lg h) h.ne;refine⟨r,σ',h1,Ra h (Bc0 h.cl h2 h3) km h2.2.2.1 fun i hi=>h2.2.1 i (Cv h.h i hi) (h.hd i hi).2,⟨by omega,fun j hj hn=>h2.2.1 j hj fun e=>hn (by rw[hf,e];simp),fun j hj=>?_⟩,h3,h4,km⟩;unfold fp at hj ⊢;rw[km]at hj;exact .inl hj
def Axg{σ:St}{m b:Nat}{uH:V}{H:List (List UInt8)}(h:MKr σ m b uH H)(th left:Int)(se tx ao lp:Bool):MKr (σ.set m (mO b th left se tx ao lp uH)) m b uH H/\FW m σ (σ.set m (mO b th left se tx ao lp uH)):=by
 have hm:=Lg h;have hf:=Ia h;have qa:Ah [.ptr b 0 0,iV th,iV left,.bool se,.bool tx,.bool ao,.bool lp,uH]=b::uH.refs:=by simp[Ah,V.refs]
 refine⟨⟨⟨th,left,se,tx,ao,lp,Bv hm⟩,?_,h.ne,Ig h.h fun i hi=>Bk (Ne.symm (h.hd i hi).1),h.hd,Fi h.cl fun i hi=>?_⟩,Alf (Ael _ _) hm fun j hj=>?_⟩
 .obtain⟨z,t,l,a,h1,h2⟩:=h.tape;exact⟨z,t,l,a,by rw[Bk h.ne];exact h1,h2⟩
 .simp only[Ob.refs,qa,Bo]at hi;rcases hi with rfl | hi
  .exact Mu h.tape
  .exact Cv h.h i hi
 .rw[qa]at hj;rw[hf];exact .inl (Db _ hj)
def Afk{σ τ:St}{m b:Nat}{uH:V}{H:List (List UInt8)}{j:Nat}(h:MKr σ m b uH H)(hj:σ.length<=j):j ∉ fp σ m:=fun hm=>by
 rw[Ia h]at hm;simp only[Bo]at hm;rcases hm with rfl | rfl | hm
 .have:=Lg h;omega
 .have:=Mu h.tape;omega
 .have:=Cv h.h j hm;omega
def Jh{σ τ:St}{m j:Nat}{x:Ob}(hw:FW m σ τ)(hj:σ[j]?=some x)(hn:j ∉ fp σ m):τ[j]?=some x/\j ∉ fp τ m:=by
 have hl:=(Al.1 hj).1;refine⟨by rw[hw.2.1 j hl hn];exact hj,fun hm=>?_⟩;rcases hw.2.2 j hm with h2 | h2
 .exact hn h2
 .omega
def Afl{T:Nat->Option AF}{pr:Nat->Option (List V->Option V)}{f:Nat}{vs:List V}{σ σ':St}{v:V}(h:Th T pr f vs σ v σ'):Bt T pr f vs σ v σ':=
 let ⟨F,h1,_,h2,h3⟩:=h
 ⟨F,h1,h2,h3⟩
def A4l{j:Nat}(hj:j<6):∃ op:Int,([[iV 6],[iV 7],[iV 8],[iV 11],[iV 13],[iV 17]]:List (List V))[j]?=some [iV op]/\(6<=op/\op<=18):=by
 rcases(show j=0\/j=1\/j=2\/j=3\/j=4\/j=5 by omega) with rfl | rfl | rfl | rfl | rfl | rfl
 .exact⟨6,rfl,by omega⟩
 .exact⟨7,rfl,by omega⟩
 .exact⟨8,rfl,by omega⟩
 .exact⟨11,rfl,by omega⟩
 .exact⟨13,rfl,by omega⟩
 .exact⟨17,rfl,by omega⟩
def Bc1(n:Int):Fn TT PT 45 [iV n] (.agg (Xp.row ⟨1,n,[],true,0,[]⟩)):=by
 refine Bc T45 rfl ?_;simp only[go_sem];exact F5 rfl
def Aga(nm:List UInt8):Fn TT PT 118 [.str nm] (.agg [iV 2,iV 0,.str nm,.nils]):=by
 have h:=A7u nm;rw[Bj]at h;exact h
def Agz(n:Int):Fn TT PT 45 [iV n] (.agg [iV 1,iV n,.str [],.nils]):=by
 have h:=Bc1 n;rw[Bj]at h;exact h
def N2:Nat->Nat
 | 0=>12
 | d+1=>2*N2 d+12
def MX(d:Nat)(x:Xp):Prop:=ShE x/\x.txt.length<=EB d/\C5 x.row<=N2 d
def MXp(d m b:Nat)(uH:V)(H:List (List UInt8))(σ:St):Prop:=∃ v σ',Th TT PT 116 [.ptr m 0 0,iV (d:Int)] σ v σ'/\(∃ x:Xp,v=.agg x.row/\MX d x)/\MKr σ' m b uH H/\FW m σ σ'
def Afm(d:Nat):12<=N2 d:=by
 cases d<;>simp[N2]
def As5{d:Nat}(h:d≠0):N2 d=2*N2 (d - 1)+12:=by
 cases d with
 | zero=>exact absurd rfl h
 | succ d=>rfl
def Apb{d:Nat}(hd:d<=5)(ih:∀ d',d≠0->d'<=d - 1->∀ σ m b uH H,MKr σ m b uH H->MXp d' m b uH H σ){σ:St}{m b:Nat}{uH:V}{H:List (List UInt8)}(h:MKr σ m b uH H):MXp d m b uH H σ:=by
 have qi:=Lg h
 suffices hh:∃ v σ',Th TT PT 116 [.ptr m 0 0,iV (d:Int)] σ v σ'/\((∃ x:Xp,v=.agg x.row/\MX d x)/\MKr σ' m b uH H/\FW m σ σ') from hh
 refine Akg T116 rfl ?_;have z0:Cl (σ++[zY]):=Jj h.cl rfl;obtain⟨s1,e1⟩:∃ s1:St,s1=σ++[zY]:=⟨_,rfl⟩;obtain⟨h1,w1⟩:=Aer h [zY] z0;rw[<-e1]at h1 w1;have k1:s1[σ.length]?=some zY:=by rw[e1];simp
 have n1:σ.length ∉ fp s1 m:=fun hm=>by
  rw[Ia h1,<-Ia h]at hm;exact Afk (τ:=σ) h (An _) hm
 obtain⟨_,_,_,_,_,_,m1⟩:=h1.row;obtain⟨k,s2,q2,h2,w2,l2,r2,m2⟩:=Q2 h1 10 10 rfl AA;have hk:k<10:=by omega
 obtain⟨k2,n2⟩:=Jh w2 k1 n1;rw[m1]at m2;have ji:=m2;have qu:=F4 w1 w2;rw[e1]at q2 m1
 have qg:∀ (e:Env) (s:St) (x:Xp),e.get 4=.ptr σ.length 0 0->MX d x->MKr s m b uH H->FW m σ s->s[σ.length]?=some zY->σ.length ∉ fp s m ->
   ∃ v,Ca e (s.set σ.length (.row x.row 102 0 0)) [.cell 4 4 false]=some v/\(Cb v=true/\v.refs=[])/\(σ.length<=(s.set σ.length (.row x.row 102 0 0)).length/\Cl (s.set σ.length (.row x.row 102 0 0)))/\((∃ x:Xp,v=.agg x.row/\MX d x)/\MKr (s.set σ.length (.row x.row 102 0 0)) m b uH H/\FW m σ (s.set σ.length (.row x.row 102 0 0))):=fun e s x he hx hs hw hk hn=>by
  have hl:=(Al.1 hk).1;have hc:Cl (s.set σ.length (.row x.row 102 0 0)):=Fi hs.cl (by simp only[Ob.refs,Pl (D0 x)];simp);rw[Ia hs]at hn;simp only[Bo,not_or]at hn;refine⟨.agg x.row,Vp (Bv hl) he (A7b x),Bhg (D0 x),⟨by simpa using hw.1,hc⟩,⟨x,rfl,hx⟩,Ra hs hc (Bk hn.1) ?_ (fun i hi=>Bk fun(e:σ.length=i)=>hn.2.2 (by rw[e];exact hi)),Axa hw (An _) qi⟩;obtain⟨z,t,l,a,h1,h2⟩:=hs.tape;exact⟨z,t,l,a,by rw[Bk hn.2.1];exact h1,h2⟩
 simp only[go_sem,m1];refine Aa q2 ?_;have ql:(k<2\/(¬ k<2/\d=0/\7<=k))\/(2<=k/\k<7)\/(d≠0/\k=7)\/(d≠0/\8<=k):=by omega
 rcases ql with hA | hB | hC | hD
 .obtain⟨j,s3,q3,h3,w3,l3,r3,m3⟩:=Q2 h2 4 4 rfl AA;obtain⟨k3,n3⟩:=Jh w3 k2 n2;rcases hA with h4 | ⟨h4,h0,je⟩
  case' inl=>have f1:((k:Int)<2)=True:=eq_true AA
  case' inr=>have f1:((k:Int)<2)=False:=eq_false AA
  case' inr=>have f2:((d:Int)==0)=true:=by simp[h0]
  case' inr=>have f3:((7:Int)<=(k:Int))=True:=eq_true AA
  case' inl=>simp only[go_sem,m2,f1]
  case' inr=>simp only[go_sem,m2,f1,f2,f3,ge_iff_le]
  all_goals
   refine Aa q3 ?_;simp only[go_sem];refine Ab (Agz _) rfl ?_;simp only[go_sem,k3];have qc:Xp.row ⟨1,j,[],true,0,[]⟩=[iV 1,iV (j:Int),.str [],.nils]:=by rw[Bj];rfl
   rw[<-qc];refine qg _ s3 ⟨1,j,[],true,0,[]⟩ AK ⟨.num AA,?_,?_⟩ h3 (F4 qu w3) k3 n3
   .rw[F3];have:=W2 (j:Int);have:=Af7 d;simp only[Eh,if_true];omega
   .rw[Ha];have:=Afm d;simp[Cz];omega
 .obtain⟨j,s3,q3,h3,w3,l3,r3,m3⟩:=Q2 h2 7 7 rfl AA;obtain⟨k3,n3⟩:=Jh w3 k2 n2;obtain⟨nm,hn,qB⟩:=Zg [[97],[98],[120],[121],[118],[120],[121]] AD (j:=j) AJ;simp only[A2,Bz]at hn;have f1:((k:Int)<2)=False:=eq_false AA;have f4:((k:Int)<7)=True:=eq_true AA;have f3:((7:Int)<=(k:Int))=False:=eq_false AA;cases f2:((d:Int)==0)
  all_goals
   simp only[go_sem,m2,f1,f2,f3,f4,ge_iff_le];refine Aa q3 ?_;simp only[go_sem,hn];refine Ab (Aga nm) rfl ?_;simp only[go_sem,k3];have qc:Xp.row ⟨2,0,nm,true,0,[]⟩=[iV 2,iV 0,.str nm,.nils]:=by rw[Bj];rfl
   rw[<-qc];refine qg _ s3 ⟨2,0,nm,true,0,[]⟩ AK ⟨.name qB.1,?_,?_⟩ h3 (F4 qu w3) k3 n3
   .rw[F3];have:=Af7 d;have:=qB.2;simp only[Eh,show((2:Int)=1)=False from eq_false AA,if_false,if_true];omega
   .rw[Ha];have:=Afm d;have:=qB.2;simp[Cz];omega
 .obtain⟨qe,rfl⟩:=hC;obtain⟨_,s3,q3,⟨x,rfl,hx⟩,h3,w3⟩:=ih 0 qe AA s2 m b uH H h2;obtain⟨k3,n3⟩:=Jh w3 k2 n2;rw[show(((0:Nat):Int))=0 from rfl]at q3;have f2:((d:Int)==0)=false:=by simp[qe]
  have qj:=D0 x;have qk:=Bj x;rw[qk]at q3 qj;simp only[go_sem,m2,f2,C4,Int.reduceBEq,Int.reduceLT];refine B8 q3 ?_;simp only[go_sem,k3];have qc:Xp.row ⟨3,0,[113],true,1,[x]⟩=[iV 3,iV 0,.str [113],.lst 1 [(xR x)]]:=by rw[Bj];simp only[A2,Bz,qk];rfl
  rw[<-qc];refine qg _ s3 ⟨3,0,[113],true,1,[x]⟩ AK ⟨.idx AD hx.1,?_,?_⟩ h3 (F4 qu w3) k3 n3
  .rw[F3];have:=Ava qe;have:=hx.2.1;have:EB 0<=EB (d - 1):=Af7 _;simp[Eh];omega
  .rw[Ha];have:=As5 qe;have:=hx.2.2;have:N2 0<=N2 (d - 1):=Afm _;simp[Cz];omega
 .obtain⟨qe,h8⟩:=hD;obtain⟨j,s3,q3,h3,w3,l3,r3,m3⟩:=Q2 h2 6 6 rfl AA;obtain⟨k3,n3⟩:=Jh w3 k2 n2;obtain⟨op,ho,jg⟩:=A4l (j:=j) AA;obtain⟨_,s4,q4,⟨x,rfl,hx⟩,h4,w4⟩:=ih (d - 1) qe AA s3 m b uH H h3;obtain⟨k4,n4⟩:=Jh w4 k3 n3;obtain⟨_,s5,q5,⟨y,rfl,hy⟩,h5,w5⟩:=ih (d - 1) qe AA s4 m b uH H h4;obtain⟨k5,n5⟩:=Jh w5 k4 n4;have f1:((k:Int)<2)=False:=eq_false AA;have f2:((d:Int)==0)=false:=by simp[qe]
  have f4:((k:Int)<7)=False:=eq_false AA;have f5:((k:Int)==7)=false:=by simp;omega
  have e3:IntKind.i64.wrap ((d:Int) - 1)=((d - 1:Nat):Int):=by rw[B7 AA];omega
  have qr:=Au9 op x y;have qj:=D0 x;have jc:=D0 y;have qk:=Bj x;have jb:=Bj y;have qc:Xp.row ⟨op,0,[],true,1,[x,y]⟩=[iV op,iV 0,.str [],.lst 1 [x.row,y.row]]:=by rw[Bj];rfl
  have jh:=qc;rw[qc]at qr;rw[qk]at q4 qj qr qc;rw[jb]at q5 jc qr qc;simp only[go_sem,m2,f1,f2,f4,f5];refine Ad AD ?_;simp only[go_sem,m2];refine Id q3 ?_;simp only[go_sem,ho];refine wgR ?_;simp only[go_sem,e3];refine Id (Afl q4) ?_;simp only[go_sem,e3];refine Id (Afl q5) ?_;simp only[go_sem];refine Ax qr AB ?_;simp only[go_sem,k5];refine Be ?_;simp only[go_sem];rw[<-qc];refine qg _ s5 ⟨op,0,[],true,1,[x,y]⟩ AK ⟨.bin AA hx.1 hy.1,?_,?_⟩ h5 (F4 qu (F4 w3 (F4 w4 w5))) k5 n5
  .rw[F3];have:=Ava qe;have h2:=(Oq (x.op,x.txt) (Ii op)).2;have qQ:=(Oq (y.op,y.txt) (Bu op+1)).2;simp only at h2 qQ;have h3:(Cq op).length<=2:=Avb _
   have h0:Eh op 0 [] [(x.op,x.txt),(y.op,y.txt)]=Ec (x.op,x.txt) (Ii op)++32::(Cq op++32::Ec (y.op,y.txt) (Bu op+1)):=by
    unfold Eh;rw[if_neg AA,if_neg AA]
   have:=hx.2.1;have:=hy.2.1;simp only[A2,Bz,h0,Aq,Bg];omega
  .rw[Ha];have:=As5 qe;have:=hx.2.2;have:=hy.2.2;simp[Cz];omega
def As6:∀ (d:Nat),d<=5->∀ (d':Nat),d'<=d->∀ (σ:St) (m b:Nat) (uH:V) (H:List (List UInt8)),MKr σ m b uH H->MXp d' m b uH H σ
 | 0,hd,d',hd',σ,m,b,uH,H,h=>by
  obtain rfl:d'=0:=by omega
  exact Apb hd (fun _ h0 _=>absurd rfl h0) h
 | d+1,hd,d',hd',σ,m,b,uH,H,h=>Apb AA (fun d2 h0 h2 σ m b uH H h=>As6 d AA d2 AA σ m b uH H h) h
/-! settled objects -/
def A4m(o:Ob):o.shut.refs=o.refs:=by cases o<;>rfl
def Xk:∀ (js:List Nat) (σ:St) (j:Nat),j ∉ js->(σ.freeze js)[j]?=σ[j]?
 | [],_,_,_=>rfl
 | i::js,σ,j,h=>by
  simp only[Bo,not_or]at h;simp only[St.freeze]
  split
  .rw[Xk js _ j h.2,Bk (Ne.symm h.1)]
  .exact Xk js _ j h.2
def Xw:∀ (js:List Nat) (σ:St),Cl σ->Cl (σ.freeze js)
 | [],_,h=>h
 | i::js,σ,h=>by
  simp only[St.freeze]
  split
  .rename_i ob ho;refine Xw js _ (Fi h ?_);rw[A4m];exact h ob (F0 ho)
  .exact Xw js _ h
def Adt{R:V->St->Prop}{f p:Nat}{res:List AR}{thr:Bool}{body:AC}{vs:List V}{σ:St}(hT:TT f=some ⟨p,res,thr,body,none⟩)(hl:vs.length=p)(h:W TT PT [.c body] (C6 0 vs) σ (Hd fun e' σ1=>∃ v,Ca e' σ1 res=some v/\(Cb v=true/\∀ i∈v.refs,i<σ1.length)/\(σ.length<=σ1.length/\Cl σ1)/\R v σ1)):∃ v σ',Bt TT PT f vs σ v σ'/\R v σ':=by
 obtain⟨e',σ1,hE,v,hr,⟨h1,h2⟩,⟨h3,h4⟩,h5⟩:=h;exact⟨v,σ1,Uu hT hl ⟨e',σ1,hE,hr,rfl⟩ h2 h1 h3 h4,h5⟩
def A79{R:V->St->Prop}{f p:Nat}{res:List AR}{body:AC}{vs:List V}{σ:St}(hT:TT f=some ⟨p,res,true,body,none⟩)(hl:vs.length=p)(h:W TT PT [.c body] (C6 0 vs) σ (Hd fun e' σ1=>∃ cs cs',Ca e' σ1 res=some (.agg cs)/\(cs.all V.cellB=true/\OCs σ1 cs cs'/\cs'.all V.rowB=true)/\(σ.length<=σ1.length/\Cl σ1)/\R (.agg cs') (σ1.freeze (Ah cs)))):∃ v σ',Th TT PT f vs σ v σ'/\R v σ':=by
 obtain⟨e',σ1,hE,cs,cs',hr,⟨h1,h2,h3⟩,⟨h4,h5⟩,h6⟩:=h;have qo:Df (.agg cs')=true:=h3;exact⟨.agg cs',σ1.freeze (Ah cs),Ba6 hT hl ⟨e',σ1,hE,.agg cs,Ah cs,hr,h1,Sw h2 _ (fun i hi=>hi),rfl⟩ (Wh qo) (Zv qo) (by rw[Qv];exact h4) (Xw _ _ h5),h6⟩
/-! statements that are made -/
def BK:Nat->Nat
 | 0=>100
 | k+1=>100+4*BK k
def SM(k:Nat)(x:Sp):Prop:=SB k x/\C5 x.row<=BK k
def Avh:∀ {k k':Nat},k<=k'->ZB k<=ZB k'
 | 0,0,_=>An _
 | 0,k'+1,_=>by simp[ZB]
 | k+1,k'+1,h=>by
  have:=Avh (k:=k) (k':=k') AA;simp only[ZB];omega
def Aki:∀ {k k':Nat},k<=k'->BK k<=BK k'
 | 0,0,_=>An _
 | 0,k'+1,_=>by simp[BK]
 | k+1,k'+1,h=>by
  have:=Aki (k:=k) (k':=k') AA;simp only[BK];omega
def Bc2{k k':Nat}{x:Sp}(hk:k<=k')(h:SM k x):SM k' x:=by
 obtain⟨⟨h1,h2,h3⟩,h4⟩:=h;have:=Avh hk;have:=Aki hk;exact⟨⟨h1,by omega,fun d hd=>Dc (h3 d AA) (Nat.mul_le_mul_left _ AA)⟩,by omega⟩
/-! the maker's locks -/
def Axh{σ σ2:St}{m b:Nat}{uH vH:V}{H H':List (List UInt8)}(h:MKr σ m b uH H)(th left:Int)(se tx ao lp:Bool)(hl:σ.length<=σ2.length)(hB:∀ j,j<σ.length->j ∉ uH.refs->σ2[j]?=σ[j]?)(g:GS σ2 1 9 vH (H'.map fun x=>[V.str x]))(hr:∀ j∈vH.refs,j∈uH.refs\/σ.length<=j)(hc:Cl σ2):
  MKr (σ2.set m (mO b th left se tx ao lp vH)) m b vH H'/\FW m σ (σ2.set m (mO b th left se tx ao lp vH)):=by
 have hm:=Lg h;have hb:=Mu h.tape;have hf:=Ia h;have qa:Ah [.ptr b 0 0,iV th,iV left,.bool se,.bool tx,.bool ao,.bool lp,vH]=b::vH.refs:=by simp[Ah,V.refs]
 have nv:∀ j∈vH.refs,j≠m/\j≠b:=fun j hj=>by
  rcases hr j hj with h2 | h2
  .exact h.hd j h2
  .omega
 have e2:σ2[m]?=σ[m]?:=hB m hm fun e=>(h.hd m e).1 rfl
 have e3:σ2[b]?=σ[b]?:=hB b hb fun e=>(h.hd b e).2 rfl
 refine⟨⟨⟨th,left,se,tx,ao,lp,Bv AA⟩,?_,h.ne,Ig g fun i hi=>Bk (Ne.symm (nv i hi).1),nv,Fi hc fun i hi=>?_⟩,Alf (τ:=σ2) ⟨hl,fun j hj hn=>?_,fun j hj=>?_⟩ hm fun j hj=>?_⟩
 .obtain⟨z,t,l,a,h1,h2⟩:=h.tape;exact⟨z,t,l,a,by rw[Bk h.ne,e3];exact h1,h2⟩
 .simp only[Ob.refs,qa,Bo]at hi;rcases hi with rfl | hi
  .omega
  .exact Cv g i hi
 .rw[hf]at hn;simp only[Bo,not_or]at hn;exact hB j hj hn.2.2
 .unfold fp at hj ⊢;rw[e2]at hj;exact .inl hj
 .rw[qa]at hj;rw[hf];simp only[Bo]at hj ⊢;rcases hj with rfl | hj
  .exact .inl (.inr (.inl rfl))
  .rcases hr j hj with h2 | h2
   .exact .inl (.inr (.inr h2))
   .exact .inr h2
def OL(σ0 σ:St)(m:Nat)(u:V)(L:List Sp):Prop:=GS σ 11 104 u (L.map Sp.row)/\∀ j∈u.refs,σ0.length<=j/\j ∉ fp σ m
def Ayv{σ0 σ τ:St}{m:Nat}{u:V}{L:List Sp}(h:OL σ0 σ m u L)(hw:FW m σ τ):OL σ0 τ m u L:=by
 obtain⟨h1,h2⟩:=h;refine⟨Ig h1 fun i hi=>hw.2.1 i (Cv h1 i hi) (h2 i hi).2,fun j hj=>⟨(h2 j hj).1,fun hm=>?_⟩⟩;have:=Cv h1 j hj;rcases hw.2.2 j hm with h3 | h3
 .exact(h2 j hj).2 h3
 .omega
def Bhv{σ0 σ:St}{m b:Nat}{uH u:V}{H:List (List UInt8)}{L:List Sp}(h:OL σ0 σ m u L)(hk:MKr σ m b uH H)(h0:FW m σ0 σ)(qi:m<σ0.length)(x:Sp)(hb:L.length<=1000000):∃ u' σ',Dz 176 (11,104) u (.lst 1 [x.row]) σ=some (u',σ')/\OL σ0 σ' m u' (L++[x])/\MKr σ' m b uH H/\FW m σ0 σ':=by
 obtain⟨h1,h2⟩:=h;have jf:(L.map Sp.row).length=L.length:=Aj ..;obtain⟨u',σ',e1,g,hl,hB,hr,hc⟩:=W4 (bytes:=176) (row:=x.row) h1 AA (Ol x) (Hg x) AA;have hf:=Ia hk
 have nf:∀ i∈fp σ m,i<σ.length/\i ∉ u.refs:=fun i hi=>by
  refine⟨?_,fun e=>(h2 i e).2 hi⟩;rw[hf]at hi;simp only[Bo]at hi;rcases hi with rfl | rfl | hi
  .exact Lg hk
  .exact Mu hk.tape
  .exact Cv hk.h i hi
 have kp:∀ i∈fp σ m,σ'[i]?=σ[i]?:=fun i hi=>hB i (nf i hi).1 (nf i hi).2
 have hm:σ'[m]?=σ[m]?:=kp m (by rw[hf];simp);have qw:σ'[b]?=σ[b]?:=kp b (by rw[hf];simp);have qq:fp σ' m=fp σ m:=by unfold fp;rw[hm]
 refine⟨u',σ',e1,⟨by rw[Dl];exact g,fun j hj=>?_⟩,Ra hk (hc hk.cl) hm ?_ (fun i hi=>kp i (by rw[hf];simp[hi])),Axb h0 qi hl (fun j hj=>.inr (h2 j hj).1) (fun j hj hn=>hB j hj hn) fun e=>(h2 m e).2 (by rw[hf];simp)⟩
 .rw[qq];rcases hr j hj with h3 | h3
  .exact h2 j h3
  .exact⟨by have:=h0.1;omega,fun e=>by have:=(nf j e).1;omega⟩
 .obtain⟨z,t,l,a,h1,h2⟩:=hk.tape;exact⟨z,t,l,a,by rw[qw];exact h1,h2⟩
def MSt(k:Nat):Prop:=∀ (σ:St) (m b:Nat) (uH:V) (H:List (List UInt8)),MKr σ m b uH H->H.length+k<=100->∃ v σ',Th TT PT 74 [.ptr m 0 0,iV (k:Int)] σ v σ'/\(∃ x:Sp,v=.agg x.row/\SM k x)/\(∃ qd,MKr σ' m b qd H)/\FW m σ σ'
def MSs(k:Nat):Prop:=∀ (σ:St) (m b:Nat) (uH:V) (H:List (List UInt8)),MKr σ m b uH H->H.length+k<=100->∀ n:Nat,n<=1000000->∃ v σ',Bt TT PT 42 [.ptr m 0 0,iV (k:Int),iV (n:Int)] σ v σ'/\∃ (L:List Sp) (qd:V),OL σ σ' m v L/\(∀ x∈L,SM k x)/\L.length<=n/\MKr σ' m b qd H/\FW m σ σ'
def Aqi{k:Nat}(hS:MSt k):MSs k:=by
 intro σ m b uH H h hH n hn;have qi:=Lg h;refine Adt T42 rfl ?_;simp only[go_sem];refine Bh (α:=Nat × St × V × V × List Sp) (fun a=>n - a.1) (fun a=>[(0,.ptr m 0 0),(1,iV (k:Int)),(2,iV (n:Int)),(7,a.2.2.1),(8,iV (a.1:Int))]) (fun a=>a.2.1) (fun a=>a.1<=n/\(OL σ a.2.1 m a.2.2.1 a.2.2.2.2/\(∀ x∈a.2.2.2.2,SM k x)/\a.2.2.2.2.length=a.1)/\MKr a.2.1 m b a.2.2.2.1 H/\FW m σ a.2.1) ?_ (0,σ,.nils,uH,[]) ⟨Av _,⟨⟨Aar,by simp[V.refs]⟩,by simp,rfl⟩,h,Ael _ _⟩;rintro⟨i,s,u,vH,L⟩ ⟨hi,⟨hO,hL,qb⟩,hk,hw⟩ ih;simp only at hi hO hL qb hk hw ih;obtain⟨_,left,_,_,_,_,m1⟩:=hk.row;have qm:=J7 hO.1;have qg:∃ v,some u=some v/\(Cb v=true/\∀ i∈v.refs,i<s.length)/\(σ.length<=s.length/\Cl s)/\∃ (L:List Sp) (qd:V),OL σ s m v L/\(∀ x∈L,SM k x)/\L.length<=n/\MKr s m b qd H/\FW m σ s:=⟨u,rfl,⟨by cases u<;>simp[V.cellB]at qm<;>rfl,Cv hO.1⟩,⟨hw.1,hk.cl⟩,L,vH,hO,hL,by omega,hk,hw⟩;refine Az Blp ?_;by_cases hc:i<n/\(i=0\/0<left)
 .have f1:((i:Int)<(n:Int))=True:=eq_true AA;obtain⟨_,s2,q2,⟨x,rfl,hx⟩,⟨jd,qX⟩,w2⟩:=hS s m b vH H hk hH;have qR:=Ayv hO w2;obtain⟨u',s3,ha,qS,qY,w3⟩:=Bhv qR qX (F4 hw w2) qi x AA;have qj:=Hg x;have qk:=Fq x;rw[qk]at q2 qj ha;rcases(show i=0\/(i≠0/\0<left) by omega) with h0 | ⟨h0,hl⟩
  case' inl=>have f2:((i:Int)==0)=true:=by simp[h0]
  case' inr=>have f2:((i:Int)==0)=false:=by simp[h0]
  case' inr=>have f3:((0:Int)<left)=True:=eq_true hl
  case' inl=>simp only[go_sem,m1,f1,f2]
  case' inr=>simp only[go_sem,m1,f1,f2,f3,gt_iff_lt]
  all_goals
   refine B8 q2 ?_;simp only[go_sem,ha,Ay (show i<9223372036854775807 by omega)];refine Am (ih (i+1,s3,u',jd,L++[x]) AH ⟨by simp only;omega,⟨qS,fun y hy=>?_,by simp[qb]⟩,qY,w3⟩) rfl;rcases Ch.1 hy with hy | hy
   .exact hL y hy
   .rw[D4.1 hy];exact hx
 .by_cases h1:i<n
  .have f1:((i:Int)<(n:Int))=True:=eq_true AA;have f2:((i:Int)==0)=false:=by simp;omega
   have f3:((0:Int)<left)=False:=eq_false AA;simp only[go_sem,m1,f1,f2,f3,gt_iff_lt];exact qg
  .have f1:((i:Int)<(n:Int))=False:=eq_false AA;simp only[go_sem,m1,f1];exact qg
def Wb(nm:List UInt8)(x:Xp):Fn TT PT 44 [.str nm,.agg (xR x)] (.agg [iV 1,iV 0,.str nm,.str [],.nils,iV x.op,iV x.n,.str x.nm,SL x.z x.t (x.l.map Xp.row),.nils,.nils]):=by
 have qj:=D0 x;rw[Bj x]at qj;refine Bc T44 rfl ?_;simp only[go_sem];exact F5 AB
def Ji{v:V}(h:v.cellB=true):v.cells=[v]/\[v].all V.cellB=true:=⟨by cases v<;>simp[V.cellB]at h<;>rfl,by simp only[Bp,Ce,h];rfl⟩
def A8a{σ:St}{m b:Nat}{uH:V}{H:List (List UInt8)}(h:MKr σ m b uH H)(hH:H.length<=1000)(nm:List UInt8):∃ z:Bool,Th TT PT 119 [.ptr m 0 0,.str nm] σ (.bool z) σ:=by
 obtain⟨_,_,_,_,_,_,m1⟩:=h.row;obtain⟨z,hz⟩:=Amk h.h AA;have ha:=Xi z 0 H nm AA
 suffices hh:∃ v,Th TT PT 119 [.ptr m 0 0,.str nm] σ v σ/\∃ z,v=.bool z by
  obtain⟨_,h1,z,rfl⟩:=hh;exact⟨z,h1⟩
 refine Axd T119 rfl ?_;simp only[go_sem,m1];refine Aya (.cons (Oo hz (J7 h.h)) (.cons (H2 rfl) .nil)) ha AK ?_;simp only[go_sem];exact⟨_,rfl,⟨rfl,rfl⟩,⟨[],by simp⟩,_,rfl⟩
structure MW (σ s:St) (m b:Nat) (H:List (List UInt8)):Prop where
 hk:∃ uH,MKr s m b uH H
 fw:FW m σ s
 z:s[σ.length]?=some (sP 0 0 [] [])
 n:σ.length ∉ fp s m
 m0:m<σ.length
def Xx{σ s:St}{m b:Nat}{H:List (List UInt8)}(h:MW σ s m b H):σ.length<s.length:=(Al.1 h.z).1
def W5{σ s s':St}{m b:Nat}{H:List (List UInt8)}{uH:V}(h:MW σ s m b H)(hk:MKr s' m b uH H)(w:FW m s s'):MW σ s' m b H:=by
 obtain⟨k,n⟩:=Jh w h.z h.n;exact⟨⟨_,hk⟩,F4 h.fw w,k,n,h.m0⟩
def J9{σ s:St}{m b:Nat}{H:List (List UInt8)}(h:MW σ s m b H):∃ (th left:Int) (se tx ao lp:Bool) (uH:V),s[m]?=some (mO b th left se tx ao lp uH) /\
  ∀ (th left:Int) (se tx ao lp:Bool),MW σ (s.set m (mO b th left se tx ao lp uH)) m b H/\FW m s (s.set m (mO b th left se tx ao lp uH)):=by
 obtain⟨uH,hk⟩:=h.hk;obtain⟨th,left,se,tx,ao,lp,hr⟩:=hk.row;refine⟨th,left,se,tx,ao,lp,uH,hr,fun th left se tx ao lp=>?_⟩;obtain⟨h1,h2⟩:=Axg hk th left se tx ao lp;exact⟨W5 h h1 h2,h2⟩
def W6{σ s:St}{m b:Nat}{H:List (List UInt8)}(h:MW σ s m b H)(n:Nat)(hn:n<=1000000000:=by omega):∃ (r:Nat) (s':St),Bt TT PT 41 [.ptr b 0 0,iV (n:Int)] s (iV (r:Int)) s'/\(r<n\/r=0)/\MW σ s' m b H/\FW m s s'/\s'[m]?=s[m]?:=by
 obtain⟨uH,hk⟩:=h.hk;obtain⟨r,s',q,h1,h2,-,h4,h5⟩:=Q2 hk n n rfl hn;exact⟨r,s',q,h4,W5 h h1 h2,h2,h5⟩
def Uz{σ s:St}{m b:Nat}{H:List (List UInt8)}(h:MW σ s m b H)(d:Nat)(hd:d<=5:=by omega):∃ (x:Xp) (s':St),Th TT PT 116 [.ptr m 0 0,iV (d:Int)] s (.agg (xR x)) s'/\MX d x/\MW σ s' m b H/\FW m s s'/\Df (.agg (xR x))=true:=by
 obtain⟨uH,hk⟩:=h.hk;obtain⟨_,s',q,⟨x,rfl,hx⟩,h1,h2⟩:=As6 5 AA d hd s m b uH H hk;have hs:=D0 x;rw[Bj x]at q hs;exact⟨x,s',q,hx,W5 h h1 h2,h2,hs⟩
def Wu{σ s:St}{m b:Nat}{H:List (List UInt8)}(h:MW σ s m b H)(hH:H.length<=1000)(nm:List UInt8):∃ z:Bool,Th TT PT 119 [.ptr m 0 0,.str nm] s (.bool z) s:=by
 obtain⟨uH,hk⟩:=h.hk;exact A8a hk hH nm
def Ru(σ s:St)(m:Nat)(u:V)(L:List Sp):Prop:=GS s 11 104 u (L.map Sp.row)/\∀ j∈u.refs,σ.length<j/\j ∉ fp s m
def Rh{σ s s':St}{m:Nat}{u:V}{L:List Sp}(h:Ru σ s m u L)(hw:FW m s s'):Ru σ s' m u L:=by
 obtain⟨h1,h2⟩:=h;refine⟨Ig h1 fun i hi=>hw.2.1 i (Cv h1 i hi) (h2 i hi).2,fun j hj=>⟨(h2 j hj).1,fun hm=>?_⟩⟩;have:=Cv h1 j hj;rcases hw.2.2 j hm with h3 | h3
 .exact(h2 j hj).2 h3
 .omega
def Axi{s:St}{m j:Nat}{X:Ob}(hj:j≠m):fp (s.set j X) m=fp s m:=by
 unfold fp;rw[Bk hj]
def Axj{σ s:St}{m j:Nat}{u:V}{L:List Sp}(X:Ob)(h:Ru σ s m u L)(hj:j ∉ u.refs)(hm:j≠m):Ru σ (s.set j X) m u L:=by
 obtain⟨h1,h2⟩:=h;exact⟨Ig h1 fun i hi=>Bk fun(e:j=i)=>hj (by rw[e];exact hi),fun i hi=>⟨(h2 i hi).1,by rw[Axi hm];exact(h2 i hi).2⟩⟩
def Zi{σ s:St}{m b k:Nat}{H:List (List UInt8)}(hS:MSs k)(h:MW σ s m b H)(hH:H.length+k<=100)(n:Nat)(hn:n<=1000000:=by omega):∃ (u:V) (L:List Sp) (s':St),Bt TT PT 42 [.ptr m 0 0,iV (k:Int),iV (n:Int)] s u s'/\Ru σ s' m u L/\(u.cells=[u]/\[u].all V.cellB=true/\u.cellB=true/\∀ j∈u.refs,s.length<=j)/\((∀ x∈L,SM k x)/\L.length<=n)/\MW σ s' m b H/\FW m s s':=by
 obtain⟨uH,hk⟩:=h.hk;obtain⟨u,s',q,L,qd,hO,hL,qb,h1,h2⟩:=hS s m b uH H hk hH n hn;have hc:=J7 hO.1;have hl:=Xx h;exact⟨u,L,s',q,⟨hO.1,fun j hj=>⟨by have:=(hO.2 j hj).1;omega,(hO.2 j hj).2⟩⟩,⟨(Ji hc).1,(Ji hc).2,hc,fun j hj=>(hO.2 j hj).1⟩,⟨hL,qb⟩,W5 h h1 h2,h2⟩
def MBl(k:Nat):Prop:=∀ (σ:St) (m b:Nat) (uH:V) (H:List (List UInt8)) (nm:List UInt8),MKr σ m b uH H->H.length+1+k<=100->∃ v σ',Bt TT PT 120 [.ptr m 0 0,.str nm,iV (k:Int)] σ v σ'/\∃ (L:List Sp) (qd:V),OL σ σ' m v L/\(∀ x∈L,SM k x)/\L.length<=2/\MKr σ' m b qd H/\FW m σ σ'
def Adu{σ s:St}{m b k:Nat}{H:List (List UInt8)}(hS:MBl k)(h:MW σ s m b H)(hH:H.length+1+k<=100)(nm:List UInt8):∃ (u:V) (L:List Sp) (s':St),Bt TT PT 120 [.ptr m 0 0,.str nm,iV (k:Int)] s u s'/\Ru σ s' m u L/\(u.cells=[u]/\[u].all V.cellB=true/\u.cellB=true/\∀ j∈u.refs,s.length<=j)/\((∀ x∈L,SM k x)/\L.length<=2)/\MW σ s' m b H/\FW m s s':=by
 obtain⟨uH,hk⟩:=h.hk;obtain⟨u,s',q,L,qd,hO,hL,qb,h1,h2⟩:=hS s m b uH H nm hk hH;have hc:=J7 hO.1;have hl:=Xx h;exact⟨u,L,s',q,⟨hO.1,fun j hj=>⟨by have:=(hO.2 j hj).1;omega,(hO.2 j hj).2⟩⟩,⟨(Ji hc).1,(Ji hc).2,hc,fun j hj=>(hO.2 j hj).1⟩,⟨hL,qb⟩,W5 h h1 h2,h2⟩
def Aes{σ s:St}{m b:Nat}{H:List (List UInt8)}(h:MW σ s m b H)(X:Ob)(hX:∀ i∈X.refs,i<s.length+1):MW σ (s++[X]) m b H/\FW m s (s++[X])/\s.length ∉ fp (s++[X]) m/\(s++[X])[s.length]?=some X/\s.length≠m:=by
 obtain⟨uH,hk⟩:=h.hk;obtain⟨h1,h2⟩:=Aer hk [X] (Jg hk.cl hX);have hm:=Lg hk;refine⟨W5 h h1 h2,h2,fun hm=>?_,by simp,by omega⟩;rw[Ia h1,<-Ia hk]at hm;exact Afk (τ:=s) hk (An _) hm
def Bhw{σ s:St}{m b j:Nat}{H:List (List UInt8)}(h:MW σ s m b H)(X:Ob)(hj:σ.length<j)(hn:j ∉ fp s m)(hX:∀ i∈X.refs,i<s.length):MW σ (s.set j X) m b H:=by
 obtain⟨uH,hk⟩:=h.hk;rw[Ia hk]at hn;simp only[Bo,not_or]at hn;refine⟨⟨uH,Ra hk (Fi hk.cl hX) (Bk hn.1) ?_ fun i hi=>Bk fun(e:j=i)=>hn.2.2 (by rw[e];exact hi)⟩,Axa h.fw AA h.m0,by rw[Bk AA];exact h.z,by rw[Axi hn.1];exact h.n,h.m0⟩;obtain⟨z,t,l,a,h1,h2⟩:=hk.tape;exact⟨z,t,l,a,by rw[Bk hn.2.1];exact h1,h2⟩
def Bhx{σ s:St}{m b:Nat}{u:V}{H:List (List UInt8)}{L:List Sp}(h:Ru σ s m u L)(hk:MW σ s m b H)(x:Sp)(hb:L.length<=1000000):∃ u' s',Dz 176 (11,104) u (.lst 1 [x.row]) s=some (u',s')/\Ru σ s' m u' (L++[x])/\(u'.cells=[u']/\[u'].all V.cellB=true/\u'.cellB=true)/\MW σ s' m b H:=by
 obtain⟨uH,qh⟩:=hk.hk;obtain⟨h1,h2⟩:=h;obtain⟨u',s',e1,g,hl,hB,hr,hc⟩:=W4 (bytes:=176) (row:=x.row) h1 AA (Ol x) (Hg x) (by rw[Aj];omega);have hf:=Ia qh
 have nf:∀ i∈fp s m,i<s.length/\i ∉ u.refs:=fun i hi=>by
  refine⟨?_,fun e=>(h2 i e).2 hi⟩;rw[hf]at hi;simp only[Bo]at hi;rcases hi with rfl | rfl | hi
  .exact Lg qh
  .exact Mu qh.tape
  .exact Cv qh.h i hi
 have kp:∀ i∈fp s m,s'[i]?=s[i]?:=fun i hi=>hB i (nf i hi).1 (nf i hi).2
 have hm:s'[m]?=s[m]?:=kp m (by rw[hf];simp);have qw:s'[b]?=s[b]?:=kp b (by rw[hf];simp);have qq:fp s' m=fp s m:=by unfold fp;rw[hm]
 refine⟨u',s',e1,⟨by rw[Dl];exact g,fun j hj=>?_⟩,⟨(Ji (J7 g)).1,(Ji (J7 g)).2,J7 g⟩,⟨uH,Ra qh (hc qh.cl) hm ?_ fun i hi=>kp i (by rw[hf];simp[hi])⟩,Axb hk.fw hk.m0 hl (fun j hj=>.inr (Qt (h2 j hj).1)) (fun j hj hn=>hB j hj hn) fun e=>(h2 m e).2 (by rw[hf];simp),by rw[hB _ (Xx hk) fun e=>by have:=(h2 _ e).1;omega];exact hk.z,by rw[qq];exact hk.n,hk.m0⟩
 .rw[qq];rcases hr j hj with h3 | h3
  .exact h2 j h3
  .exact⟨by have:=Xx hk;omega,fun e=>by have:=(nf j e).1;omega⟩
 .obtain⟨z,t,l,a,h1,h2⟩:=qh.tape;exact⟨z,t,l,a,by rw[qw];exact h1,h2⟩
def BSs(σ s:St)(m:Nat)(u:V)(L:List Sp):Prop:=(∃ z t,u=SL z t (L.map Sp.row))\/Ru σ s m u L
def Ayw{σ s:St}{m:Nat}{u:V}{L:List Sp}(h:BSs σ s m u L)(X:Ob):∃ z t,OC (s.set σ.length X) u (SL z t (L.map Sp.row))/\u.cellB=true/\(∀ j∈u.refs,σ.length<j/\j ∉ fp s m/\j<s.length):=by
 rcases h with⟨z,t,rfl⟩ | ⟨h1,h2⟩
 .refine⟨z,t,Em ?_,?_,by rw[Om];simp⟩
  .exact G8 z t _
  .unfold SL;split<;>rfl
 .have h3:GS (s.set σ.length X) 11 104 u (L.map Sp.row):=Ig h1 fun i hi=>Bk (by have:=(h2 i hi).1;omega)
  obtain⟨z,hz⟩:=Amk h3 AA;exact⟨z,0,hz,J7 h1,fun j hj=>⟨(h2 j hj).1,(h2 j hj).2,Cv h1 j hj⟩⟩
set_option maxHeartbeats 1000000 in
def Jk{σ s:St}{m b k:Nat}{H:List (List UInt8)}{e:Env}{uB uE:V}{cs:List V}{op line:Int}{nm arg:List UInt8}{iz:Bool}{it:Nat}{idx:List Xp}{ex:Xp}{LB LE:List Sp}(h:MW σ s m b H)(he:e.get 4=.ptr σ.length 0 0)(hB:BSs σ s m uB LB)(hE:BSs σ s m uE LE)
  (qs:cs=[iV op,iV line,.str nm,.str arg,SL iz it (idx.map Xp.row),iV ex.op,iV ex.n,.str ex.nm,SL ex.z ex.t (ex.l.map Xp.row),uB,uE]) (hS:∀ z t z' t',SM k ⟨op,line,nm,arg,iz,it,idx,ex,z,t,LB,z',t',LE⟩) :
  ∃ cs1 cs',Ca e (s.set σ.length (.row cs 104 0 0)) [.cell 4 11 false]=some (.agg cs1)/\(cs1.all V.cellB=true/\OCs (s.set σ.length (.row cs 104 0 0)) cs1 cs'/\cs'.all V.rowB=true)/\(σ.length<=(s.set σ.length (.row cs 104 0 0)).length/\Cl (s.set σ.length (.row cs 104 0 0))) /\
   ((∃ x:Sp,V.agg cs'=.agg x.row/\SM k x)/\(∃ qd,MKr (St.freeze (s.set σ.length (.row cs 104 0 0)) (Ah cs1)) m b qd H)/\FW m σ (St.freeze (s.set σ.length (.row cs 104 0 0)) (Ah cs1))):=by
 have hl:=Xx h;obtain⟨uH,hk⟩:=h.hk;obtain⟨z1,t1,o1,c1,r1⟩:=Ayw hB (.row cs 104 0 0);obtain⟨z2,t2,o2,c2,r2⟩:=Ayw hE (.row cs 104 0 0);have qJ:V.rowB (SL iz it (idx.map Xp.row))=true:=G8 _ _ _;have qK:V.rowB (SL ex.z ex.t (ex.l.map Xp.row))=true:=G8 _ _ _
 have qa:Ah cs=uB.refs++uE.refs:=by
  rw[qs];simp only[Ah,Om,V.refs,Ci,Bw]
 have qz:∀ j∈Ah cs,σ.length<j/\j ∉ fp s m/\j<s.length:=fun j hj=>by
  rw[qa]at hj;rcases Ch.1 hj with hj | hj
  .exact r1 j hj
  .exact r2 j hj
 have qF:Cl (s.set σ.length (.row cs 104 0 0)):=Fi hk.cl fun i hi=>(qz i hi).2.2
 have hn:=h.n;have qt:=Ia hk;rw[qt]at hn;simp only[Bo,not_or]at hn;have qn:(s.set σ.length (.row cs 104 0 0))[σ.length]?=some (.row cs 104 0 0):=Bv hl
 have qA:∀ j,j∈fp s m->(St.freeze (s.set σ.length (.row cs 104 0 0)) (Ah cs))[j]?=s[j]?:=fun j hj=>by
  rw[Xk _ _ _ fun e=>(qz j e).2.1 hj,Bk fun(e:σ.length=j)=>h.n (by rw[e];exact hj)]
 have qG:=qA m (by rw[qt];simp);refine⟨cs,(sW op line nm arg iz it idx ex.op ex.n ex.nm ex.z ex.t ex.l z1 t1 LB z2 t2 LE),Vp qn he (by rw[qs];rfl),⟨?_,?_,?_⟩,⟨by rw[Jc];omega,qF⟩,⟨⟨op,line,nm,arg,iz,it,idx,ex,z1,t1,LB,z2,t2,LE⟩,by rw[Fq],hS z1 t1 z2 t2⟩,⟨uH,Ra hk (Xw _ _ qF) qG ?_ fun i hi=>qA i (by rw[qt];simp[hi])⟩,?_⟩
 .rw[qs]
  have a1:V.cellB (SL iz it (idx.map Xp.row))=true:=by unfold SL;split<;>rfl
  have a2:V.cellB (SL ex.z ex.t (ex.l.map Xp.row))=true:=by unfold SL;split<;>rfl
  simp only[Bp,Ce,a1,a2,c1,c2];rfl
 .conv=>arg 2;rw[qs]
  exact .cons (Em rfl) (.cons (Em rfl) (.cons (Em rfl) (.cons (Em rfl) (.cons (Em qJ) (.cons (Em rfl) (.cons (Em rfl) (.cons (Em rfl) (.cons (Em qK) (.cons o1 (.cons o2 .nil))))))))))
 .have b1:V.rowB (SL z1 t1 (LB.map Sp.row))=true:=G8 _ _ _;have b2:V.rowB (SL z2 t2 (LE.map Sp.row))=true:=G8 _ _ _;simp only[Bp,Ce,qJ,qK,b1,b2];rfl
 .obtain⟨z,t,l,a,h1,h2⟩:=hk.tape;exact⟨z,t,l,a,by rw[qA b (by rw[qt];simp)];exact h1,h2⟩
 .have hw:=h.fw;refine⟨by rw[Qv,Jc];omega,fun j hj qZ=>?_,fun j hj=>?_⟩
  .rw[Xk _ _ _ fun e=>by have:=(qz j e).1;omega,Bk AA];exact hw.2.1 j hj qZ
  .unfold fp at hj;rw[qG]at hj;exact hw.2.2 j hj
def Jq{k:Nat}{x:Sp}(h1:1<=x.op/\x.op<=15)(h2:x.idx.length<=1)(h3:x.op≠1->x.idx=[])(h4:∀ y∈x.idx,MX 0 y)(h5:(Fg x.op=true/\MX 1 x.ex)\/(Fg x.op=false/\x.ex=Xp.zero))(h6:(Gx x.op=true/\x.nm=[])\/(Gx x.op=false/\Mg x.nm))(h7:(x.op≠15/\x.arg=[])\/(x.op=15/\Mg x.arg))
  (h8:B3 x.op=false->x.body=[]) (qD:x.op≠2->x.els=[]) (h9:B3 x.op=true->k≠0/\(x.body.length<=3/\∀ y∈x.body,SM (k - 1) y)/\(x.els.length<=1/\∀ y∈x.els,SM (k - 1) y)):SM k x:=by
 have hv:∀ n:Int,(n=1\/n=2\/n=3\/n=14)->Fg n=true:=by
  rintro n (rfl | rfl | rfl | rfl)<;>rfl
 have e0:EB 0=22:=rfl;have e1:EB 1=54:=rfl;have x0:N2 0=12:=rfl;have x1:N2 1=36:=rfl;refine⟨Bnf h1 h2 h3 (fun y hy=>⟨(h4 y hy).1,by have:=(h4 y hy).2.1;omega⟩) (fun h=>?_) (fun h=>?_) h6 h7 h8 qD fun h=>?_,?_⟩
 .rcases h5 with⟨-,h5⟩ | ⟨h5,-⟩
  .exact⟨h5.1,by have:=h5.2.1;omega⟩
  .rw[hv _ h]at h5;cases h5
 .rcases h5 with⟨h5,-⟩ | ⟨-,h5⟩
  .rw[h]at h5;cases h5
  .rw[h5];exact⟨rfl,rfl,rfl,rfl⟩
 .obtain⟨a,b,c⟩:=h9 h;exact⟨a,b.1,c.1,fun y hy=>(b.2 y hy).1,fun y hy=>(c.2 y hy).1⟩
 .have hn:x.nm.length<=4:=by
   rcases h6 with⟨-,h⟩ | ⟨-,h⟩
   .rw[h];simp
   .exact h.2
  have ha:x.arg.length<=4:=by
   rcases h7 with⟨-,h⟩ | ⟨-,h⟩
   .rw[h];simp
   .exact h.2
  have hi:Cz (x.idx.map Xp.row)<=12:=by
   rcases hx:x.idx with _ | ⟨y,r⟩
   .simp[Cz]
   .rw[hx]at h2 h4;have:r=[]:=M6.1 (by rw[Bg]at h2;omega);subst this;have:=(h4 y AE).2.2;simp[Cz];omega
  have he:C5 x.ex.row<=36:=by
   rcases h5 with⟨-,h5⟩ | ⟨-,h5⟩
   .have:=h5.2.2;omega
   .rw[h5,Ha];simp[Xp.zero,Cz]
  rw[Nu];cases hb:B3 x.op
  .have qW:x.els=[]:=qD fun e=>by rw[e]at hb;cases hb
   rw[h8 hb,qW];simp only[Bz,Cz];have:BK 0<=BK k:=Aki (Av _);have:BK 0=100:=rfl;omega
  .obtain⟨hk,⟨l1,b1⟩,⟨l2,b2⟩⟩:=h9 hb
   have qp:∀ {l:List Sp},(∀ y∈l,SM (k - 1) y)->Cz (l.map Sp.row)<=l.length*BK (k - 1):=by
    intro l
    induction l with
    | nil=>intro _;simp[Cz]
    | cons y l ih=>
     intro h;have h1:=(h y AE).2;have h2:=ih fun z hz=>h z (by simp[hz])
     rw[A2,Cz,Bg,F1];omega
   have g1:=qp b1;have g2:=qp b2;have g3:x.body.length*BK (k - 1)<=3*BK (k - 1):=Fl _ l1;have g4:x.els.length*BK (k - 1)<=1*BK (k - 1):=Fl _ l2
   have g5:BK k=100+4*BK (k - 1):=by
    cases k with
    | zero=>exact absurd rfl hk
    | succ k=>rfl
   omega
set_option maxHeartbeats 2000000 in
def Ada{k:Nat}(hS:MSs k):MBl k:=by
 intro σ m b uH H nm h hH;have qi:=Lg h;obtain⟨th,left,se,tx,ao,lp,m1⟩:=h.row;have n1:(H.map fun x=>[V.str x]).length=H.length:=Aj ..;obtain⟨u',s2,e1,g,hl,hB,hr,hc⟩:=W4 (bytes:=16) (row:=[.str nm]) h.h AA rfl rfl (by rw[n1];omega);have g':GS s2 1 9 u' ((H++[nm]).map fun x=>[V.str x]):=by rw[Dl];exact g
 obtain⟨h2,w2⟩:=Axh h th left se tx ao lp hl hB g' hr (hc h.cl);have m2:s2[m]?=some (mO b th left se tx ao lp uH):=(hB m qi fun e=>(h.hd m e).1 rfl).trans m1;obtain⟨qU,qT⟩:=Ji (J7 g);obtain⟨s3,e3⟩:∃ t,t=s2.set m (mO b th left se tx ao lp u'):=⟨_,rfl⟩;rw[<-e3]at h2 w2;have m3:s3[m]?=some (mO b th left se tx ao lp u'):=by rw[e3];exact Bv AA
 obtain⟨r,s4,q4,h4,w4,l4,r4,jj⟩:=Q2 h2 2 2 rfl AA;have e4:IntKind.i64.wrap (1+(r:Int))=((1+r:Nat):Int):=by rw[B7 AA];omega
 obtain⟨v,s5,q5,L,jk,hO,hL,hn,h5,w5⟩:=hS s4 m b u' (H++[nm]) h4 (by rw[Aq,Hi];omega) (1+r) AA;have qV:=J7 hO.1;obtain⟨qN,qf,qM,qO,qC,qL,m5⟩:=h5.row;have g5:=h5.h;rw[Dl,A2,Bz]at g5;obtain⟨u6,qI,g6,ja⟩:=Aw9 g5;rw[n1]at qI;obtain⟨qy,qx⟩:=Ji (J7 g6);obtain⟨h6,w6⟩:=Axh (H':=H) h5 qN qf qM qO qC qL (An _) (fun _ _ _=>rfl) g6 (fun j hj=>.inl (by rw[<-ja];exact hj)) h5.cl;have qv:=Ayv hO w6;have qP:=F4 w2 (F4 w4 (F4 w5 w6));have l5:=Aas h5.h;rw[Aj,Aq,Hi]at l5;have e5:IntKind.i64.wrap (((H.length+1:Nat):Int) - 1)=(H.length:Int):=by rw[B7 AA];omega
 have qE:OL σ (s5.set m (mO b qN qf qM qO qC qL u6)) m v L:=⟨qv.1,fun j hj=>⟨by have:=(qv.2 j hj).1;have:=w2.1;have:=w4.1;omega,(qv.2 j hj).2⟩⟩;refine Adt T120 rfl ?_;simp only[go_sem,m1,e1,m2,qU,qT];rw[<-e3];simp only[go_sem,m3];refine Aa q4 ?_;simp only[go_sem,e4];refine Aa q5 ?_;simp only[go_sem];refine Ad AD ?_;simp only[go_sem,m5,l5,e5,qI,qy,qx];refine Be ?_;simp only[go_sem];exact⟨v,rfl,⟨by cases v<;>simp[V.cellB]at qV<;>rfl,Cv qE.1⟩,⟨qP.1,h6.cl⟩,L,u6,qE,hL,by omega,h6,qP⟩
