/- Plain: the text of a shaped program is scanned and parsed as that program, apart from lines. -/
import Derived.Test.YtlehfgdhebapeaaGreatDoorLd
set_option linter.all false
namespace Go.Proofs.YtlehfgdhebapeaaGreatDoor.KM
open Go
theorem Mi{w r:List UInt8}{c:UInt8}{cs:List UInt8}(e:w=c::cs)(h1:E7 c=true)(h2:cs.all Fx=true)(h3:w.length<=12)(hk:G0 w=true)(hr:Hq r):Bi (w++r)=cons [(3,w)] (Bi r):=by
 subst e
 rw[Ah8 h1 (A5.1 h2) h3 hr,hk]
 rfl
theorem Ar4:((List.range 14).all fun i=>match B2 ((i:Int)+2) with
  | c::cs=>E7 c&&(cs.all Fx&&(decide ((c::cs).length<=12)&&G0 (c::cs)))
  | []=>false)=true:=by decide
theorem Tq{op:Int}(h:2<=op/\op<=15){r:List UInt8}(hr:Hq r):Bi (B2 op++r)=cons [(3,B2 op)] (Bi r):=by
 obtain⟨i,hi,rfl⟩:∃ i:Nat,i<14/\op=(i:Int)+2:=⟨(op - 2).toNat,by omega,by omega⟩
 have:=A5.1 Ar4 i (Ew.2 hi)
 split at this
 ·rename_i c cs he
  simp only[Ad,decide_eq_true_eq]at this
  rw[he]
  exact Mi rfl this.1 this.2.1 this.2.2.1 this.2.2.2 hr
 ·cases this
theorem F7(r:List UInt8):Hq (32::r):=H1 r (by decide)
theorem Ar5(hd:Lh){s:Sp}(h:ShS s):Tx (B6 s) (Rn s):=by
 obtain⟨op,line,nm,arg,iz,it,idx,ex,bz,bt,body,ez,et,els⟩:=s
 cases h with
 | mk h1 h2 h3 h4 h5 h6 h7 h8 h9 h10 h11 h12 h13 h14=>
  simp only at h1 h2 h3 h4 h5 h6 h7 h8 h9 h10 h11 h12 h13 h14
  intro r hr
  simp only[B6,Rn]
  by_cases a:op=1
  ·subst a
   rw[if_pos rfl,if_pos rfl]
   have hnm:=h3 rfl
   have hex:=(Xn hd (h9 rfl)).1
   match hi:idx,h6 with
   | [],_=>
    simp only[Eh,R4,Bf,Bl,Bg]
    rw[Fz hnm (F7 _),Dv,V5,Dv,hex r hr]
    simp only[D8,Bg,Bf]
   | [x],_=>
    have hx:=(Xn hd (h8 x (by simp))).1
    simp only[Eh,R4,Bf,Bl,Bg]
    rw[Fz hnm (H1 _ (by decide)),Fc (by decide),hx _ (H1 _ (by decide)),Fc (by decide),Dv,V5,Dv,hex r hr]
    simp only[D8,Bg,Bf]
   | _::_::_,h=>simp at h
  have hop:2<=op/\op<=15:=by omega
  rw[if_neg a,if_neg a]
  by_cases b:op=2\/op=3
  ·rw[if_pos b,if_pos b]
   have hex:=(Xn hd (h9 (by rcases b with rfl | rfl<;>rfl))).1
   simp only[Bl,Bg]
   rw[Tq hop (F7 _),Dv,hex r hr]
   simp only[D8,Bg,Bf]
  rw[if_neg b,if_neg b]
  by_cases c:op=7\/op=8
  ·rw[if_pos c,if_pos c]
   exact Tq hop hr
  rw[if_neg c,if_neg c]
  have hnm:=h3 (by unfold G3;simp;omega)
  by_cases d:op=14
  ·rw[if_pos d,if_pos d]
   have hex:=(Xn hd (h9 (by subst d;rfl))).1
   simp only[Bl,Bg]
   rw[Tq hop (F7 _),Dv,Fz hnm (F7 _),Dv,hex r hr]
   simp only[D8,Bg,Bf]
  rw[if_neg d,if_neg d]
  by_cases e:op=15
  ·rw[if_pos e,if_pos e]
   simp only[Bl,Bg]
   rw[Tq hop (F7 _),Dv,Fz hnm (F7 _),Dv,Fz (h4 e) hr]
   simp only[D8,Bg,Bf]
  rw[if_neg e,if_neg e]
  simp only[Bl,Bg]
  rw[Tq hop (F7 _),Dv,Fz hnm hr]
  simp only[D8,Bg,Bf]
theorem Xo{d:Nat}:∀ {l:List Sp},(∀ s∈l,∀ r,Bi (Sp.txt d s++r)=cons s.toks (Bi r))->∀ r,Bi (Sp.txts d l++r)=cons (Sp.tokss l) (Bi r)
 | [],_,r=>(To _).symm
 | s::l,h,r=>by
  simp only[Sp.txts,Sp.tokss,Bl]
  rw[h s Co,Xo (fun s hs=>h s (Cb _ hs)) r,D8]
theorem T3(d:Nat)(r:List UInt8):Bi (Es d++r)=Bi r:=Avs _ r
theorem Ar6{r:List UInt8}(hr:Hq r):Bi (101::108::115::101::r)=cons [(3,Nz)] (Bi r):=Mi (w:=Nz) rfl (by decide) (by decide) (by decide) (by decide) hr
theorem Ar7(hd:Lh){s:Sp}(h:ShS s):∀ (d:Nat) (r:List UInt8),Bi (s.txt d++r)=cons s.toks (Bi r):=by
 induction h with
 | @mk s h1 h2 h3 h4 h5 h6 h7 h8 h9 h10 h11 h12 h13 h14 ih1 ih2=>
  intro d r
  have hh:=Ar5 hd (ShS.mk h1 h2 h3 h4 h5 h6 h7 h8 h9 h10 h11 h12 h13 h14)
  obtain⟨op,line,nm,arg,iz,it,idx,ex,bz,bt,body,ez,et,els⟩:=s
  simp only at h1 h2 h3 h4 h5 h6 h7 h8 h9 h10 h11 h12 h13 h14 ih1 ih2
  simp only[Sp.txt,Sp.toks]
  generalize B6 ⟨op,line,nm,arg,iz,it,idx,ex,bz,bt,body,ez,et,els⟩=H at hh ⊢
  generalize Rn ⟨op,line,nm,arg,iz,it,idx,ex,bz,bt,body,ez,et,els⟩=K at hh ⊢
  have i1:=Xo (d:=d+1) (l:=body) fun s hs r=>ih1 s hs (d+1) r
  have i2:=Xo (d:=d+1) (l:=els) fun s hs r=>ih2 s hs (d+1) r
  cases hb:Bk op
  ·simp only[Dr,if_false,Bl,Bg,Bf]
   rw[T3,hh _ (H1 _ (by decide)),Fc (by decide),N0]
   simp only[D8,Bg,Bf]
  ·simp only[if_true,Bl,Bg,Bf]
   rw[T3,hh _ (F7 _),Dv,Fc (by decide),N0,i1]
   cases he:els.isEmpty
   ·simp only[Dr,if_false,Bl,Bg,Bf]
    rw[T3,Fc (by decide),Dv,Ar6 (F7 _),Dv,Fc (by decide),N0,i2,T3,Fc (by decide),N0]
    simp only[D8,Bg,Bf,Bl]
   ·simp only[if_true,Bl,Bg,Bf]
    rw[T3,Fc (by decide),N0]
    simp only[D8,Bg,Bf,Bl]
/-! declarations -/
def N1(k:Int):List UInt8:=if k=1 then [118,97,114] else if k=2 then [118,111,108,97,116,105,108,101] else if k=3 then [109,117,116,101,120] else if k=4 then [114,119,108,111,99,107] else if k=5 then [99,111,110,100] else [102,117,116,117,114,101]
def Jw(n:Int):List Kt:=if n=0 then [] else if n<0 then [(4,[61]),(4,[45]),(2,A4 (-n))] else [(4,[61]),(2,A4 n)]
def Jx(n:Int):List Kt:=if n=0 then [] else [(4,[91]),(2,A4 n),(4,[93])]
def Ic(d:Dp):List Kt:=(3,N1 d.kind)::(1,d.nm)::(Jx d.size++(Jw d.init++((if d.kind=5 then [(1,d.on)] else [])++[(4,[59])])))
theorem Ao2{n:Int}(h:n<0):A4 n=45::A4 (-n):=by
 unfold A4
 rw[if_pos h,if_neg (by omega),show(-n).toNat=n.natAbs by omega]
theorem Aax(hd:Lh){n:Int}(hn : -9223372036854775808<n/\n<=9223372036854775807){r:List UInt8}(hr:Hq r):Bi (Dl n++r)=cons (Jw n) (Bi r):=by
 unfold Dl Jw
 by_cases h:n=0
 ·rw[if_pos h,if_pos h];exact(To _).symm
 rw[if_neg h,if_neg h]
 by_cases h2:n<0
 ·rw[if_pos h2,Ao2 h2]
  simp only[Bg]
  rw[Dv,V5,Dv,Fc (by decide),Xm hd (by omega) hr]
  simp only[D8,Bg,Bf]
 ·rw[if_neg h2]
  simp only[Bg]
  rw[Dv,V5,Dv,Xm hd (by omega) hr]
  simp only[D8,Bg,Bf]
theorem Aee(n:Int){r:List UInt8}(hr:Hq r):Hq (Dl n++r):=by
 unfold Dl
 split
 ·exact hr
 ·exact F7 _
theorem Ar8(hd:Lh){d:Dp}(h:ShD d)(r:List UInt8):Bi (Bq d++59::10::r)=cons (Ic d) (Bi r):=by
 obtain⟨kind,line,nm,size,init,on⟩:=d
 obtain⟨h1,h2,h3,h4,h5,h6⟩:=h
 simp only at h1 h2 h3 h4 h5 h6
 have c59:Hq (59::10::r):=H1 _ (by decide)
 have s59:Bi (59::10::r)=cons [(4,[59])] (Bi r):=by rw[Fc (by decide),N0]
 have hw:kind=1\/kind=2\/kind=3\/kind=4\/kind=5\/kind=6:=by omega
 rcases hw with rfl | rfl | rfl | rfl | rfl | rfl
 ·simp only[Bq,Ic,N1,if_true,Bl,Bg,Bf]
  rw[show(118::97::114::32::(nm++((if size=0 then [] else 91::(A4 size++[93]))++(Dl init++59::10::r))))=[118,97,114]++32::(nm++((if size=0 then [] else 91::(A4 size++[93]))++(Dl init++59::10::r))) from rfl]
  rw[Mi rfl (by decide) (by decide) (by decide) (by decide) (F7 _),Dv]
  by_cases hz:size=0
  ·subst hz
   simp only[if_true,Bf,Jx]
   rw[Fz h2 (Aee _ c59),Aax hd (by omega) c59,s59]
   simp[D8]
  ·simp only[Jx,hz,if_false,Bl,Bg,Bf]
   rw[Fz h2 (H1 _ (by decide)),Fc (by decide),Xm hd (by omega) (H1 _ (by decide)),Fc (by decide),Aax hd (by omega) c59,s59]
   simp[D8]
 ·have hz:size=0:=h3.2.2 (by omega)
  subst hz
  have e:Bq ⟨2,line,nm,0,init,on⟩++59::10::r=[118,111,108,97,116,105,108,101]++32::(nm++(Dl init++59::10::r)):=by simp[Bq]
  rw[e,Mi rfl (by decide) (by decide) (by decide) (by decide) (F7 _),Dv,Fz h2 (Aee _ c59),Aax hd (by omega) c59,s59]
  simp[D8,Ic,N1,Jx]
 ·have hz:size=0:=h3.2.2 (by omega)
  have hi:init=0:=h4.2.2 (by omega) (by omega)
  subst hz hi
  have e:Bq ⟨3,line,nm,0,0,on⟩++59::10::r=[109,117,116,101,120]++32::(nm++59::10::r):=by simp[Bq]
  rw[e,Mi rfl (by decide) (by decide) (by decide) (by decide) (F7 _),Dv,Fz h2 c59,s59]
  simp[D8,Ic,N1,Jx,Jw]
 ·have hz:size=0:=h3.2.2 (by omega)
  have hi:init=0:=h4.2.2 (by omega) (by omega)
  subst hz hi
  have e:Bq ⟨4,line,nm,0,0,on⟩++59::10::r=[114,119,108,111,99,107]++32::(nm++59::10::r):=by simp[Bq]
  rw[e,Mi rfl (by decide) (by decide) (by decide) (by decide) (F7 _),Dv,Fz h2 c59,s59]
  simp[D8,Ic,N1,Jx,Jw]
 ·have hz:size=0:=h3.2.2 (by omega)
  have hi:init=0:=h4.2.2 (by omega) (by omega)
  subst hz hi
  have e:Bq ⟨5,line,nm,0,0,on⟩++59::10::r=[99,111,110,100]++32::(nm++32::(on++59::10::r)):=by simp[Bq]
  rw[e,Mi rfl (by decide) (by decide) (by decide) (by decide) (F7 _),Dv,Fz h2 (F7 _),Dv,Fz (h5 rfl) c59,s59]
  simp[D8,Ic,N1,Jx,Jw]
 ·have hz:size=0:=h3.2.2 (by omega)
  have hi:init=0:=h4.2.2 (by omega) (by omega)
  subst hz hi
  have e:Bq ⟨6,line,nm,0,0,on⟩++59::10::r=[102,117,116,117,114,101]++32::(nm++59::10::r):=by simp[Bq]
  rw[e,Mi rfl (by decide) (by decide) (by decide) (by decide) (F7 _),Dv,Fz h2 c59,s59]
  simp[D8,Ic,N1,Jx,Jw]
theorem Abm(hnum:Ia){n:Int}(hn:0<=n/\n<=9223372036854775807){ts:List Tk}{r:List Kt}(h:ts.map Tk.kt=(2,A4 n)::r):∃ ts',Fg ts=some (n,ts')/\ts'.map Tk.kt=r:=by
 obtain⟨t,ts',rfl,h1,h2,h3⟩:=Da h
 exact⟨ts',by unfold Fg;simp only;rw[if_pos h1,h2,hnum n hn],h3⟩
theorem Ar9(hnum:Ia){n:Int}(hn:0<=n/\n<=9223372036854775807){ts:List Tk}{r:List Kt}(hr:Ht [91] r=false)(h:ts.map Tk.kt=Jx n++r):∃ ts',Nw ts=some (n,ts')/\ts'.map Tk.kt=r:=by
 unfold Jx at h
 unfold Nw
 by_cases hz:n=0
 ·rw[if_pos hz,Bf]at h
  rw[if_neg (by rw[Nc,h,hr];simp),hz]
  exact⟨ts,rfl,h⟩
 ·rw[if_neg hz]at h
  simp only[Bg,Bf]at h
  obtain⟨t,ts1,rfl,k1,k2,k3⟩:=Da h
  obtain⟨ts2,a1,a2⟩:=Abm hnum hn k3
  obtain⟨ts3,b1,b2⟩:=Ip a2
  rw[if_pos (K4 (.inr rfl) k1 k2),Jg,a1]
  simp only
  rw[if_neg hz,b1]
  exact⟨ts3,rfl,b2⟩
theorem Aib(hnum:Ia){n:Int}(hn : -9223372036854775808<n/\n<=9223372036854775807){ts:List Tk}{r:List Kt}(hr:Ht [61] r=false)(h:ts.map Tk.kt=Jw n++r):∃ ts',Lf ts=some (n,ts')/\ts'.map Tk.kt=r:=by
 unfold Jw at h
 unfold Lf
 by_cases hz:n=0
 ·rw[if_pos hz,Bf]at h
  rw[if_neg (by rw[Nc,h,hr];simp),hz]
  exact⟨ts,rfl,h⟩
 rw[if_neg hz]at h
 by_cases hm:n<0
 ·rw[if_pos hm]at h
  simp only[Bg,Bf]at h
  obtain⟨t,ts1,rfl,k1,k2,k3⟩:=Da h
  obtain⟨t2,ts2,rfl,k4,k5,k6⟩:=Da k3
  obtain⟨ts3,a1,a2⟩:=Abm hnum (by omega) k6
  rw[if_pos (K4 (.inr rfl) k1 k2),Jg,if_pos (K4 (.inr rfl) k4 k5),Jg,a1]
  exact⟨ts3,by simp,a2⟩
 ·rw[if_neg hm]at h
  simp only[Bg,Bf]at h
  obtain⟨t,ts1,rfl,k1,k2,k3⟩:=Da h
  obtain⟨t2,ts2,rfl,k4,k5,k6⟩:=Da k3
  rw[if_pos (K4 (.inr rfl) k1 k2),Jg,if_neg (by rw[Pk (.inr k4)];simp)]
  obtain⟨ts3,a1,a2⟩:=Abm hnum (by omega) k3
  exact⟨ts3,a1,a2⟩
theorem Asa{k:Int}(h:1<=k/\k<=6):Ff (N1 k)=k:=by
 have hw:k=1\/k=2\/k=3\/k=4\/k=5\/k=6:=by omega
 rcases hw with rfl | rfl | rfl | rfl | rfl | rfl<;>rfl
theorem Wj{d d':Dp}(h1:d.kind=d'.kind)(h2:d.nm=d'.nm)(h3:d.size=d'.size)(h4:d.init=d'.init)(h5:d.on=d'.on):Ib d d'=true:=by
 unfold Ib
 rw[h1,h2,h3,h4,h5]
 simp
theorem Asb(hnum:Ia){d:Dp}(h:ShD d){ts:List Tk}{r:List Kt}(hm:ts.map Tk.kt=Ic d++r):I3 ts=true/\∃ d' ts',Mf ts=some (d',ts')/\ts'.map Tk.kt=r/\Ib d d'=true:=by
 obtain⟨kind,line,nm,size,init,on⟩:=d
 obtain⟨h1,h2,h3,h4,h5,h6⟩:=h
 simp only at h1 h2 h3 h4 h5 h6
 simp only[Ic,Bg,Bl,Bf]at hm
 obtain⟨t,ts1,rfl,k1,k2,k3⟩:=Da hm
 obtain⟨ts2,a1,a2⟩:=Jl k3
 have hdt:=Asa h1
 refine⟨by simp only[I3];rw[k1,k2,hdt];simp;omega,?_⟩
 simp only[Mf,a1]
 rw[k2,hdt]
 by_cases e1:kind=1
 ·subst e1
  rw[if_pos rfl]
  rw[if_neg (by decide),Bf]at a2
  obtain⟨ts3,b1,b2⟩:=Ar9 hnum (n:=size) (by omega) (by
   unfold Jw
   split
   ·rfl
   ·split<;>rfl) a2
  obtain⟨ts4,c1,c2⟩:=Aib hnum (n:=init) (by omega) rfl b2
  obtain⟨ts5,d1,d2⟩:=Ip c2
  rw[b1]
  simp only
  rw[c1]
  simp only
  rw[d1]
  exact⟨_,_,rfl,d2,Wj rfl rfl rfl rfl (h6 (by decide))⟩
 have hz:size=0:=h3.2.2 e1
 subst hz
 rw[if_neg e1]
 simp only[Jx,if_true,Bf]at a2
 by_cases e2:kind=2
 ·subst e2
  rw[if_pos rfl]
  rw[if_neg (by decide),Bf]at a2
  obtain⟨ts4,c1,c2⟩:=Aib hnum (n:=init) (by omega) rfl a2
  obtain⟨ts5,d1,d2⟩:=Ip c2
  rw[c1]
  simp only
  rw[d1]
  exact⟨_,_,rfl,d2,Wj rfl rfl rfl rfl (h6 (by decide))⟩
 have hi:init=0:=h4.2.2 e1 e2
 subst hi
 rw[if_neg e2]
 simp only[Jw,if_true,Bf]at a2
 by_cases e5:kind=5
 ·subst e5
  rw[if_pos rfl]
  simp only[if_true,Bg,Bf]at a2
  obtain⟨ts3,b1,b2⟩:=Jl a2
  obtain⟨ts5,d1,d2⟩:=Ip b2
  rw[b1]
  simp only
  rw[d1]
  exact⟨_,_,rfl,d2,Wj rfl rfl rfl rfl rfl⟩
 ·rw[if_neg e5]
  rw[if_neg e5,Bf]at a2
  obtain⟨ts5,d1,d2⟩:=Ip a2
  rw[d1]
  exact⟨_,_,rfl,d2,Wj rfl rfl rfl rfl (h6 e5)⟩
theorem Agp(hnum:Ia){r:List Kt}(hr:r≠[]->∃ r',r=(3,J3)::r'):∀ {l:List Dp},(∀ d∈l,ShD d)->∀ {n:Nat} {ts:List Tk},ts.map Tk.kt=(l.map Ic).flatten++r->l.length<n->∃ l' ts',G7 n ts=some (l',ts')/\ts'.map Tk.kt=r/\l.length=l'.length/\((l.zip l').all fun p=>Ib p.1 p.2)=true
 | [],_,n,ts,hm,hn=>by
  obtain⟨n,rfl⟩:∃ k,n=k+1:=⟨n - 1,by omega⟩
  simp only[Be,Sk,Bf]at hm
  refine⟨[],ts,?_,hm,rfl,rfl⟩
  rw[G7,if_neg ?_]
  cases ts with
  | nil=>simp[I3]
  | cons t ts=>
   obtain⟨r',e⟩:=hr (by rw[<-hm];simp)
   rw[e]at hm
   obtain⟨t',ts',e2,k1,k2,k3⟩:=Da hm
   cases e2
   simp only[I3]
   rw[k2]
   rw[show Ff J3=0 from rfl]
   simp
 | d::l,h,n,ts,hm,hn=>by
  obtain⟨n,rfl⟩:∃ k,n=k+1:=⟨n - 1,by simp at hn;omega⟩
  simp only[Ao,Df,Bl]at hm
  obtain⟨h1,d',ts1,h2,h3,h4⟩:=Asb hnum (h d Co) hm
  obtain⟨l',ts2,a1,a2,a3,a4⟩:=Agp hnum hr (l:=l) (fun d hd=>h d (Cb _ hd)) (n:=n) h3 (by simp at hn;omega)
  refine⟨d'::l',ts2,?_,a2,by simp[a3],by simp[h4];simpa using a4⟩
  rw[G7,if_pos h1,h2]
  simp only
  rw[a1]
/-! threads -/
def J4:List (List UInt8)->List Kt
 | []=>[]
 | [a]=>[(1,a)]
 | a::b::l=>(1,a)::(4,[44])::J4 (b::l)
def Iu(t:Tp):List Kt:=(3,J3)::(1,t.nm)::(4,[40])::(J4 t.locals++(4,[41])::(4,[123])::(Sp.tokss t.body++[(4,[125])]))
def X2(p:Gp):List Kt:=(p.decls.map Ic).flatten++(p.thrs.map Iu).flatten
theorem Ajg:∀ {l:List (List UInt8)},(∀ s∈l,Cx s=true)->∀ r,Hq r->Bi (Ca l++r)=cons (J4 l) (Bi r)
 | [],_,r,_=>(To _).symm
 | [a],h,r,hr=>Fz (h a (by simp)) hr
 | a::b::l,h,r,hr=>by
  simp only[Ca,J4,Bl,Bg]
  rw[Fz (h a (by simp)) (H1 _ (by decide)),Fc (by decide),Dv,Ajg (l:=b::l) (fun s hs=>h s (Cb _ hs)) r hr]
  simp only[D8,Bg,Bf]
theorem Avw(hd:Lh){t:Tp}(h1:Cx t.nm=true)(h2:∀ s∈t.locals,Cx s=true)(h3:∀ s∈t.body,ShS s)(r:List UInt8):Bi (Cs t++r)=cons (Iu t) (Bi r):=by
 have e:Cs t++r=J3++32::(t.nm++40::(Ca t.locals++41::32::123::10::(Sp.txts 1 t.body++125::10::r))):=by simp[Cs,J3]
 rw[e,Mi (w:=J3) rfl (by decide) (by decide) (by decide) (by decide) (F7 _),Dv,Fz h1 (H1 _ (by decide)),Fc (by decide),Ajg h2 _ (H1 _ (by decide)),Fc (by decide),Dv,Fc (by decide),N0,
  Xo (d:=1) (fun s hs r=>Ar7 hd (h3 s hs) 1 r),Fc (by decide),N0]
 simp only[D8,Iu,Bg,Bf,Bl]
theorem Asc(hd:Lh){p:Gp}(h:ShG p):Bi (D4 p)=some (X2 p):=by
 have a:∀ (l:List Dp),(∀ d∈l,ShD d)->∀ r,Bi ((l.map fun d=>Bq d++[59,10]).flatten++r)=cons ((l.map Ic).flatten) (Bi r):=by
  intro l
  induction l with
  | nil=>intro _ r;exact(To _).symm
  | cons d l ih=>
   intro hl r
   simp only[Ao,Df,Bl,Bg,Bf]
   rw[Ar8 hd (hl d Co),ih (fun d hd=>hl d (Cb _ hd)),D8]
 have b:∀ (l:List Tp),(∀ t∈l,Cx t.nm=true)->(∀ t∈l,∀ s∈t.locals,Cx s=true)->(∀ t∈l,∀ s∈t.body,ShS s)->∀ r,Bi ((l.map Cs).flatten++r)=cons ((l.map Iu).flatten) (Bi r):=by
  intro l
  induction l with
  | nil=>intro _ _ _ r;exact(To _).symm
  | cons t l ih=>
   intro h1 h2 h3 r
   simp only[Ao,Df,Bl]
   rw[Avw hd (h1 t Co) (h2 t Co) (h3 t Co),ih (fun t ht=>h1 t (Cb _ ht)) (fun t ht=>h2 t (Cb _ ht)) (fun t ht=>h3 t (Cb _ ht)),D8]
 unfold D4 X2
 rw[a p.decls h.decls,show(p.thrs.map Cs).flatten=(p.thrs.map Cs).flatten++[] by simp,b p.thrs h.nms h.locs h.thrs,Avr]
 simp[cons]
theorem Ajh:∀ {l:List (List UInt8)},l≠[]->∀ {n:Nat} {ts:List Tk} {r:List Kt},ts.map Tk.kt=J4 l++(4,[41])::r->l.length<=n->∃ ts',Hc n ts=some (l,ts')/\ts'.map Tk.kt=r
 | [],h,_,_,_,_,_=>absurd rfl h
 | [a],_,n,ts,r,hm,hn=>by
  obtain⟨n,rfl⟩:∃ k,n=k+1:=⟨n - 1,by simp at hn;omega⟩
  obtain⟨ts1,a1,a2⟩:=Jl (r:=(4,[41])::r) hm
  obtain⟨ts2,b1,b2⟩:=Ip a2
  refine⟨ts2,?_,b2⟩
  rw[Hc,a1]
  simp only
  rw[if_neg (by rw[Nc,a2];simp[Ht]),b1]
  rfl
 | a::b::l,_,n,ts,r,hm,hn=>by
  obtain⟨n,rfl⟩:∃ k,n=k+1:=⟨n - 1,by simp at hn;omega⟩
  obtain⟨ts1,a1,a2⟩:=Jl (r:=(4,[44])::(J4 (b::l)++(4,[41])::r)) hm
  obtain⟨t2,ts2,rfl,k1,k2,k3⟩:=Da a2
  obtain⟨ts3,b1,b2⟩:=Ajh (l:=b::l) (by simp) (n:=n) k3 (by simp at hn ⊢;omega)
  refine⟨ts3,?_,b2⟩
  rw[Hc,a1]
  simp only
  rw[if_pos (K4 (.inr rfl) k1 k2),Jg,b1]
theorem Asd{l:List (List UInt8)}{n:Nat}{ts:List Tk}{r:List Kt}(hm:ts.map Tk.kt=J4 l++(4,[41])::r)(hn:l.length<=n):∃ ts',Ur n ts=some (l,ts')/\ts'.map Tk.kt=r:=by
 unfold Ur
 by_cases h:l=[]
 ·subst h
  obtain⟨t,ts',rfl,k1,k2,k3⟩:=Da (r:=r) hm
  rw[if_pos (K4 (.inr rfl) k1 k2)]
  exact⟨ts',rfl,k3⟩
 ·obtain⟨ts',a1,a2⟩:=Ajh h hm hn
  refine⟨ts',?_,a2⟩
  rw[if_neg ?_,a1]
  rw[Nc,hm]
  match l with
  | []=>exact absurd rfl h
  | [a]=>simp[J4,Ht]
  | a::b::l=>simp[J4,Ht]
theorem Ao3{t t':Tp}(h1:t.nm=t'.nm)(h2:t.locals=t'.locals)(h3:Cz t.body t'.body=true):Gs t t'=true:=by
 unfold Gs
 rw[h1,h2,h3]
 simp
theorem Agq:∀ l:List (List UInt8),l.length<=(J4 l).length
 | []=>Af _
 | [a]=>Af _
 | a::b::l=>by
  have:=Agq (b::l)
  simp only[J4,Ag]at this ⊢
  omega
theorem Avx(hnum:Ia){t:Tp}(h:∀ s∈t.body,ShS s){n:Nat}{ts:List Tk}{r:List Kt}(hm:ts.map Tk.kt=Iu t++r)(hn:10*ts.length+2<=n):∃ t' ts',Mm n ts=some (t',ts')/\ts'.map Tk.kt=r/\Gs t t'=true:=by
 have hl:=Fv hm
 simp only[Iu,Bg,Bl,Bf]at hm
 obtain⟨t0,ts1,rfl,k1,k2,k3⟩:=Da hm
 obtain⟨ts2,a1,a2⟩:=Jl k3
 obtain⟨ts3,b1,b2⟩:=Ip a2
 have hlk:=Agq t.locals
 simp only[Iu,Ag,Al,Br]at hl
 rw[Ag]at hn
 obtain⟨ts4,c1,c2⟩:=Asd (n:=n) b2 (by omega)
 have hl4:=Fv c2
 simp only[Ag,Al]at hl4
 obtain⟨l',ts5,d1,d2,d3⟩:=Tn h (fun s hs=>Ary hnum (h s hs)) (n:=n) c2 (by omega)
 refine⟨_,ts5,?_,d2,Ao3 (t':=⟨t.nm,t0.line,true,0,t.locals,true,0,l'⟩) rfl rfl d3⟩
 simp only[Mm,a1]
 rw[b1]
 simp only
 rw[c1]
 simp only
 rw[d1]
theorem Aic(hnum:Ia){m:Nat}:∀ {l:List Tp},(∀ t∈l,∀ s∈t.body,ShS s)->∀ {n:Nat} {ts:List Tk},ts.map Tk.kt=(l.map Iu).flatten->10*ts.length+2<=m->l.length<n->∃ l',Hb m n ts=some (l',[])/\l.length=l'.length/\((l.zip l').all fun p=>Gs p.1 p.2)=true
 | [],_,n,ts,hm,_,hn=>by
  obtain⟨n,rfl⟩:∃ k,n=k+1:=⟨n - 1,by omega⟩
  have:ts=[]:=by simpa using hm
  subst this
  exact⟨[],by rw[Hb,if_neg (by simp[Ak])],rfl,rfl⟩
 | t::l,h,n,ts,hm,hb,hn=>by
  obtain⟨n,rfl⟩:∃ k,n=k+1:=⟨n - 1,by simp at hn;omega⟩
  simp only[Ao,Df]at hm
  obtain⟨t',ts1,a1,a2,a3⟩:=Avx hnum (h t Co) hm hb
  have hl:=Fv hm
  have hl1:=Fv a2
  rw[Al]at hl
  obtain⟨l',b1,b2,b3⟩:=Aic hnum (m:=m) (l:=l) (fun t ht=>h t (Cb _ ht)) (n:=n) a2 (by omega) (by simp at hn;omega)
  refine⟨t'::l',?_,by simp[b2],by simp[a3];simpa using b3⟩
  have hth:Ak J3 ts=true:=by
   rw[Nc,hm]
   simp[Iu,Ht]
  rw[Hb,if_pos hth,a1]
  simp only
  rw[b1]
theorem Aay{α:Type}(f:α->List Kt)(hf:∀ x,1<=(f x).length):∀ l:List α,l.length<=((l.map f).flatten).length
 | []=>Af _
 | x::l=>by
  have:=Aay f hf l
  have:=hf x
  simp only[Ao,Df,Al,Ag]
  omega
theorem Ase(hnum:Ia){p:Gp}(h:ShG p){ts:List Tk}(hm:ts.map Tk.kt=X2 p):∃ p',Pj ts=some (p',[])/\Fo p p'=true:=by
 have hl:=Fv hm
 unfold X2 at hm hl
 have g1:=Aay Ic (fun d=>by simp[Ic]) p.decls
 have g2:=Aay Iu (fun t=>by simp[Iu]) p.thrs
 rw[Al]at hl
 obtain⟨l1,ts1,a1,a2,a3,a4⟩:=Agp hnum (r:=(p.thrs.map Iu).flatten) (fun hne=>by
  match hp:p.thrs with
  | []=>rw[hp]at hne;exact absurd rfl hne
  | t::l=>simp[Iu]) h.decls (n:=ts.length+1) hm (by omega)
 have hl1:=Fv a2
 obtain⟨l2,b1,b2,b3⟩:=Aic hnum (m:=H9 ts.length) (l:=p.thrs) h.thrs (n:=ts.length+1) a2 (by unfold H9;omega) (by omega)
 have hne:l2.isEmpty=false:=by
  cases l2 with
  | nil=>exact absurd (List.length_eq_zero_iff.1 b2) h.some
  | cons _ _=>rfl
 refine⟨⟨true,0,l1,true,0,l2⟩,?_,?_⟩
 ·unfold Pj
  rw[a1]
  simp only
  rw[b1]
  simp only
  rw[if_neg (by rw[hne];simp)]
 ·unfold Fo
  simp only[a3,b2,a4,b3,beq_self_eq_true,Vj]
theorem Alx(hd:Lh)(hnum:Ia){p:Gp}(h:ShG p)(hl:(D4 p).length<=4096):∃ p',Pa (D4 p)=some p'/\Fo p p'=true:=by
 have hs:=Asc hd h
 unfold Bi Oj at hs
 obtain⟨ts,h1,h2⟩:=A8.1 hs
 obtain⟨p',h3,h4⟩:=Ase hnum h h2
 refine⟨p',?_,h4⟩
 unfold Pa
 rw[if_neg (by omega),h1]
 simp only
 rw[h3]
end Go.Proofs.YtlehfgdhebapeaaGreatDoor.KM
