/- Plain: the text of a shaped program is scanned and parsed as that program, apart from lines. -/
import Derived.Test.YtcoeikinocflnaaGreatDoorLd
set_option linter.all false
namespace Go.Proofs.YtcoeikinocflnaaGreatDoor.KM
open Go
/-! declarations -/
def Aks(k:Int):List UInt8:=if k=1 then [118,97,114] else if k=2 then [118,111,108,97,116,105,108,101] else if k=3 then [109,117,116,101,120] else if k=4 then [114,119,108,111,99,107] else if k=5 then [99,111,110,100] else [102,117,116,117,114,101]
def Uu(n:Int):List Kt:=if n=0 then [] else if n<0 then [(4,[61]),(4,[45]),(2,Cz (-n))] else [(4,[61]),(2,Cz n)]
def X9(n:Int):List Kt:=if n=0 then [] else [(4,[91]),(2,Cz n),(4,[93])]
def Rt(d:Dp):List Kt:=(3,Aks d.kind)::(1,d.nm)::(X9 d.size++(Uu d.init++((if d.kind=5 then [(1,d.on)] else [])++[(4,[59])])))
theorem Abr(hnum:Im){n:Int}(hn:0<=n/\n<=9223372036854775807){ts:List Tk}{r:List Kt}(h:ts.map Tk.kt=(2,Cz n)::r):∃ ts',E0 ts=some (n,ts')/\ts'.map Tk.kt=r:=by
 obtain⟨t,ts',rfl,h1,h2,h3⟩:=C7 h
 exact⟨ts',by unfold E0;simp only;rw[if_pos h1,h2,hnum n hn],h3⟩
theorem Aty(hnum:Im){n:Int}(hn:0<=n/\n<=9223372036854775807){ts:List Tk}{r:List Kt}(hr:Hw [91] r=false)(h:ts.map Tk.kt=X9 n++r):∃ ts',Ni ts=some (n,ts')/\ts'.map Tk.kt=r:=by
 unfold X9 at h
 unfold Ni
 by_cases hz:n=0
 ·rw[if_pos hz,Bw]at h
  rw[if_neg (by rw[M3,h,hr];simp),hz]
  exact⟨ts,rfl,h⟩
 ·rw[if_neg hz]at h
  simp only[Cq,Bw]at h
  obtain⟨t,ts1,rfl,k1,k2,k3⟩:=C7 h
  obtain⟨ts2,a1,a2⟩:=Abr hnum hn k3
  obtain⟨ts3,b1,b2⟩:=Ih a2
  rw[if_pos (J9 (.inr rfl) k1 k2),Jj,a1]
  simp only
  rw[if_neg hz,b1]
  exact⟨ts3,rfl,b2⟩
theorem Aiv(hnum:Im){n:Int}(hn : -9223372036854775808<n/\n<=9223372036854775807){ts:List Tk}{r:List Kt}(hr:Hw [61] r=false)(h:ts.map Tk.kt=Uu n++r):∃ ts',La ts=some (n,ts')/\ts'.map Tk.kt=r:=by
 unfold Uu at h
 unfold La
 by_cases hz:n=0
 ·rw[if_pos hz,Bw]at h
  rw[if_neg (by rw[M3,h,hr];simp),hz]
  exact⟨ts,rfl,h⟩
 rw[if_neg hz]at h
 by_cases hm:n<0
 ·rw[if_pos hm]at h
  simp only[Cq,Bw]at h
  obtain⟨t,ts1,rfl,k1,k2,k3⟩:=C7 h
  obtain⟨t2,ts2,rfl,k4,k5,k6⟩:=C7 k3
  obtain⟨ts3,a1,a2⟩:=Abr hnum (by omega) k6
  rw[if_pos (J9 (.inr rfl) k1 k2),Jj,if_pos (J9 (.inr rfl) k4 k5),Jj,a1]
  exact⟨ts3,by simp,a2⟩
 ·rw[if_neg hm]at h
  simp only[Cq,Bw]at h
  obtain⟨t,ts1,rfl,k1,k2,k3⟩:=C7 h
  obtain⟨t2,ts2,rfl,k4,k5,k6⟩:=C7 k3
  rw[if_pos (J9 (.inr rfl) k1 k2),Jj,if_neg (by rw[Pk (.inr k4)];simp)]
  obtain⟨ts3,a1,a2⟩:=Abr hnum (by omega) k3
  exact⟨ts3,a1,a2⟩
theorem Atz{k:Int}(h:1<=k/\k<=6):Ez (Aks k)=k:=by
 have hw:k=1\/k=2\/k=3\/k=4\/k=5\/k=6:=by omega
 rcases hw with rfl | rfl | rfl | rfl | rfl | rfl<;>rfl
theorem Ww{d d':Dp}(h1:d.kind=d'.kind)(h2:d.nm=d'.nm)(h3:d.size=d'.size)(h4:d.init=d'.init)(h5:d.on=d'.on):Us d d'=true:=by
 unfold Us
 rw[h1,h2,h3,h4,h5]
 simp
theorem At0(hnum:Im){d:Dp}(h:ShD d){ts:List Tk}{r:List Kt}(hm:ts.map Tk.kt=Rt d++r):I4 ts=true/\∃ d' ts',L7 ts=some (d',ts')/\ts'.map Tk.kt=r/\Us d d'=true:=by
 obtain⟨kind,line,nm,size,init,on⟩:=d
 obtain⟨h1,h2,h3,h4,h5,h6⟩:=h
 simp only at h1 h2 h3 h4 h5 h6
 simp only[Rt,Cq,Bz,Bw]at hm
 obtain⟨t,ts1,rfl,k1,k2,k3⟩:=C7 hm
 obtain⟨ts2,a1,a2⟩:=Jm k3
 have hdt:=Atz h1
 refine⟨by simp only[I4];rw[k1,k2,hdt];simp;omega,?_⟩
 simp only[L7,a1]
 rw[k2,hdt]
 by_cases e1:kind=1
 ·subst e1
  rw[if_pos rfl]
  rw[if_neg (by decide),Bw]at a2
  obtain⟨ts3,b1,b2⟩:=Aty hnum (n:=size) (by omega) (by
   unfold Uu
   split
   ·rfl
   ·split<;>rfl) a2
  obtain⟨ts4,c1,c2⟩:=Aiv hnum (n:=init) (by omega) rfl b2
  obtain⟨ts5,d1,d2⟩:=Ih c2
  rw[b1]
  simp only
  rw[c1]
  simp only
  rw[d1]
  exact⟨_,_,rfl,d2,Ww rfl rfl rfl rfl (h6 (by decide))⟩
 have hz:size=0:=h3.2.2 e1
 subst hz
 rw[if_neg e1]
 simp only[X9,if_true,Bw]at a2
 by_cases e2:kind=2
 ·subst e2
  rw[if_pos rfl]
  rw[if_neg (by decide),Bw]at a2
  obtain⟨ts4,c1,c2⟩:=Aiv hnum (n:=init) (by omega) rfl a2
  obtain⟨ts5,d1,d2⟩:=Ih c2
  rw[c1]
  simp only
  rw[d1]
  exact⟨_,_,rfl,d2,Ww rfl rfl rfl rfl (h6 (by decide))⟩
 have hi:init=0:=h4.2.2 e1 e2
 subst hi
 rw[if_neg e2]
 simp only[Uu,if_true,Bw]at a2
 by_cases e5:kind=5
 ·subst e5
  rw[if_pos rfl]
  simp only[if_true,Cq,Bw]at a2
  obtain⟨ts3,b1,b2⟩:=Jm a2
  obtain⟨ts5,d1,d2⟩:=Ih b2
  rw[b1]
  simp only
  rw[d1]
  exact⟨_,_,rfl,d2,Ww rfl rfl rfl rfl rfl⟩
 ·rw[if_neg e5]
  rw[if_neg e5,Bw]at a2
  obtain⟨ts5,d1,d2⟩:=Ih a2
  rw[d1]
  exact⟨_,_,rfl,d2,Ww rfl rfl rfl rfl (h6 e5)⟩
theorem Aha(hnum:Im){r:List Kt}(hr:r≠[]->∃ r',r=(3,N1)::r'):∀ {l:List Dp},(∀ d∈l,ShD d)->∀ {n:Nat} {ts:List Tk},ts.map Tk.kt=(l.map Rt).flatten++r->l.length<n->∃ l' ts',Gy n ts=some (l',ts')/\ts'.map Tk.kt=r/\l.length=l'.length/\((l.zip l').all fun p=>Us p.1 p.2)=true
 | [],_,n,ts,hm,hn=>by
  obtain⟨n,rfl⟩:∃ k,n=k+1:=⟨n - 1,by omega⟩
  simp only[Cy,List.flatten_nil,Bw]at hm
  refine⟨[],ts,?_,hm,rfl,rfl⟩
  rw[Gy,if_neg ?_]
  cases ts with
  | nil=>simp[I4]
  | cons t ts=>
   obtain⟨r',e⟩:=hr (by rw[<-hm];simp)
   rw[e]at hm
   obtain⟨t',ts',e2,k1,k2,k3⟩:=C7 hm
   cases e2
   simp only[I4]
   rw[k2]
   rw[show Ez N1=0 from rfl]
   simp
 | d::l,h,n,ts,hm,hn=>by
  obtain⟨n,rfl⟩:∃ k,n=k+1:=⟨n - 1,by simp at hn;omega⟩
  simp only[A1,Ea,Bz]at hm
  obtain⟨h1,d',ts1,h2,h3,h4⟩:=At0 hnum (h d Dm) hm
  obtain⟨l',ts2,a1,a2,a3,a4⟩:=Aha hnum hr (l:=l) (fun d hd=>h d (Db _ hd)) (n:=n) h3 (by simp at hn;omega)
  refine⟨d'::l',ts2,?_,a2,by simp[a3],by simp[h4];simpa using a4⟩
  rw[Gy,if_pos h1,h2]
  simp only
  rw[a1]
/-! threads -/
def Me:List (List UInt8)->List Kt
 | []=>[]
 | [a]=>[(1,a)]
 | a::b::l=>(1,a)::(4,[44])::Me (b::l)
def Lf(t:Tp):List Kt:=(3,N1)::(1,t.nm)::(4,[40])::(Me t.locals++(4,[41])::(4,[123])::(Sp.tokss t.body++[(4,[125])]))
def Ace(p:Gp):List Kt:=(p.decls.map Rt).flatten++(p.thrs.map Lf).flatten
theorem Aj4:∀ {l:List (List UInt8)},l≠[]->∀ {n:Nat} {ts:List Tk} {r:List Kt},ts.map Tk.kt=Me l++(4,[41])::r->l.length<=n->∃ ts',G8 n ts=some (l,ts')/\ts'.map Tk.kt=r
 | [],h,_,_,_,_,_=>absurd rfl h
 | [a],_,n,ts,r,hm,hn=>by
  obtain⟨n,rfl⟩:∃ k,n=k+1:=⟨n - 1,by simp at hn;omega⟩
  obtain⟨ts1,a1,a2⟩:=Jm (r:=(4,[41])::r) hm
  obtain⟨ts2,b1,b2⟩:=Ih a2
  refine⟨ts2,?_,b2⟩
  rw[G8,a1]
  simp only
  rw[if_neg (by rw[M3,a2];simp[Hw]),b1]
  rfl
 | a::b::l,_,n,ts,r,hm,hn=>by
  obtain⟨n,rfl⟩:∃ k,n=k+1:=⟨n - 1,by simp at hn;omega⟩
  obtain⟨ts1,a1,a2⟩:=Jm (r:=(4,[44])::(Me (b::l)++(4,[41])::r)) hm
  obtain⟨t2,ts2,rfl,k1,k2,k3⟩:=C7 a2
  obtain⟨ts3,b1,b2⟩:=Aj4 (l:=b::l) (by simp) (n:=n) k3 (by simp at hn ⊢;omega)
  refine⟨ts3,?_,b2⟩
  rw[G8,a1]
  simp only
  rw[if_pos (J9 (.inr rfl) k1 k2),Jj,b1]
theorem At1{l:List (List UInt8)}{n:Nat}{ts:List Tk}{r:List Kt}(hm:ts.map Tk.kt=Me l++(4,[41])::r)(hn:l.length<=n):∃ ts',Ur n ts=some (l,ts')/\ts'.map Tk.kt=r:=by
 unfold Ur
 by_cases h:l=[]
 ·subst h
  obtain⟨t,ts',rfl,k1,k2,k3⟩:=C7 (r:=r) hm
  rw[if_pos (J9 (.inr rfl) k1 k2)]
  exact⟨ts',rfl,k3⟩
 ·obtain⟨ts',a1,a2⟩:=Aj4 h hm hn
  refine⟨ts',?_,a2⟩
  rw[if_neg ?_,a1]
  rw[M3,hm]
  match l with
  | []=>exact absurd rfl h
  | [a]=>simp[Me,Hw]
  | a::b::l=>simp[Me,Hw]
theorem Aql{t t':Tp}(h1:t.nm=t'.nm)(h2:t.locals=t'.locals)(h3:Fl t.body t'.body=true):Rp t t'=true:=by
 unfold Rp
 rw[h1,h2,h3]
 simp
theorem Ahb:∀ l:List (List UInt8),l.length<=(Me l).length
 | []=>Ah _
 | [a]=>Ah _
 | a::b::l=>by
  have:=Ahb (b::l)
  simp only[Me,Af]at this ⊢
  omega
theorem Ax1(hnum:Im){t:Tp}(h:∀ s∈t.body,ShS s){n:Nat}{ts:List Tk}{r:List Kt}(hm:ts.map Tk.kt=Lf t++r)(hn:10*ts.length+2<=n):∃ t' ts',Md n ts=some (t',ts')/\ts'.map Tk.kt=r/\Rp t t'=true:=by
 have hl:=Fd hm
 simp only[Lf,Cq,Bz,Bw]at hm
 obtain⟨t0,ts1,rfl,k1,k2,k3⟩:=C7 hm
 obtain⟨ts2,a1,a2⟩:=Jm k3
 obtain⟨ts3,b1,b2⟩:=Ih a2
 have hlk:=Ahb t.locals
 simp only[Lf,Af,Aj,Cf]at hl
 rw[Af]at hn
 obtain⟨ts4,c1,c2⟩:=At1 (n:=n) b2 (by omega)
 have hl4:=Fd c2
 simp only[Af,Aj]at hl4
 obtain⟨l',ts5,d1,d2,d3⟩:=Tc h (fun s hs=>Atv hnum (h s hs)) (n:=n) c2 (by omega)
 refine⟨_,ts5,?_,d2,Aql (t':=⟨t.nm,t0.line,true,0,t.locals,true,0,l'⟩) rfl rfl d3⟩
 simp only[Md,a1]
 rw[b1]
 simp only
 rw[c1]
 simp only
 rw[d1]
theorem Aiw(hnum:Im){m:Nat}:∀ {l:List Tp},(∀ t∈l,∀ s∈t.body,ShS s)->∀ {n:Nat} {ts:List Tk},ts.map Tk.kt=(l.map Lf).flatten->10*ts.length+2<=m->l.length<n->∃ l',G5 m n ts=some (l',[])/\l.length=l'.length/\((l.zip l').all fun p=>Rp p.1 p.2)=true
 | [],_,n,ts,hm,_,hn=>by
  obtain⟨n,rfl⟩:∃ k,n=k+1:=⟨n - 1,by omega⟩
  have:ts=[]:=by simpa using hm
  subst this
  exact⟨[],by rw[G5,if_neg (by simp[Ai])],rfl,rfl⟩
 | t::l,h,n,ts,hm,hb,hn=>by
  obtain⟨n,rfl⟩:∃ k,n=k+1:=⟨n - 1,by simp at hn;omega⟩
  simp only[A1,Ea]at hm
  obtain⟨t',ts1,a1,a2,a3⟩:=Ax1 hnum (h t Dm) hm hb
  have hl:=Fd hm
  have hl1:=Fd a2
  rw[Aj]at hl
  obtain⟨l',b1,b2,b3⟩:=Aiw hnum (m:=m) (l:=l) (fun t ht=>h t (Db _ ht)) (n:=n) a2 (by omega) (by simp at hn;omega)
  refine⟨t'::l',?_,by simp[b2],by simp[a3];simpa using b3⟩
  have hth:Ai N1 ts=true:=by
   rw[M3,hm]
   simp[Lf,Hw]
  rw[G5,if_pos hth,a1]
  simp only
  rw[b1]
theorem Aa9{α:Type}(f:α->List Kt)(hf:∀ x,1<=(f x).length):∀ l:List α,l.length<=((l.map f).flatten).length
 | []=>Ah _
 | x::l=>by
  have:=Aa9 f hf l
  have:=hf x
  simp only[A1,Ea,Aj,Af]
  omega
theorem At2(hnum:Im){p:Gp}(h:ShG p){ts:List Tk}(hm:ts.map Tk.kt=Ace p):∃ p',Pj ts=some (p',[])/\L8 p p'=true:=by
 have hl:=Fd hm
 unfold Ace at hm hl
 have g1:=Aa9 Rt (fun d=>by simp[Rt]) p.decls
 have g2:=Aa9 Lf (fun t=>by simp[Lf]) p.thrs
 rw[Aj]at hl
 obtain⟨l1,ts1,a1,a2,a3,a4⟩:=Aha hnum (r:=(p.thrs.map Lf).flatten) (fun hne=>by
  match hp:p.thrs with
  | []=>rw[hp]at hne;exact absurd rfl hne
  | t::l=>simp[Lf]) h.decls (n:=ts.length+1) hm (by omega)
 have hl1:=Fd a2
 obtain⟨l2,b1,b2,b3⟩:=Aiw hnum (m:=H7 ts.length) (l:=p.thrs) h.thrs (n:=ts.length+1) a2 (by unfold H7;omega) (by omega)
 have hne:l2.isEmpty=false:=by
  cases l2 with
  | nil=>exact absurd (List.length_eq_zero_iff.1 b2) h.some
  | cons _ _=>rfl
 refine⟨⟨true,0,l1,true,0,l2⟩,?_,?_⟩
 ·unfold Pj
  rw[a1]
  simp only
  rw[b1]
  simp only
  rw[if_neg (by rw[hne];simp)]
 ·unfold L8
  simp only[a3,b2,a4,b3,beq_self_eq_true,Vv]
end Go.Proofs.YtcoeikinocflnaaGreatDoor.KM
