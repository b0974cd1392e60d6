/- Plain: the tokens of an expression's text are parsed as that expression. -/
import Derived.Test.YtcoeikinocflnaaGreatDoorLa
set_option linter.all false
namespace Go.Proofs.YtcoeikinocflnaaGreatDoor.KM
open Go
abbrev Kt:=Int × List UInt8
def Tk.kt(t:Tk):Kt:=(t.kind,t.text)
def G9(o:Int × List Kt)(level:Int):List Kt:=if Ap o.1<level then(4,[40])::(o.2++[(4,[41])]) else o.2
def Nj(op n:Int)(nm:List UInt8)(ts:List (Int × List Kt)):List Kt:=
 if op=1 then [(2,Cz n)] else if op=2 then [(1,nm)] else
 match ts with
 | [a]=>if op=3 then(1,nm)::(4,[91])::(a.2++[(4,[93])]) else(4,Bp op)::G9 a 6
 | [a,b]=>G9 a (Fb op)++(4,Bp op)::G9 b (Ap op+1)
 | _=>[]
mutual
def Xp.toks:Xp->List Kt
 | ⟨op,n,nm,_,_,l⟩=>Nj op n nm (Xp.tokss l)
def Xp.tokss:List Xp->List (Int × List Kt)
 | []=>[]
 | x::l=>(x.op,x.toks)::Xp.tokss l
end
inductive ShE:Xp->Prop
 | num {n:Int} {z:Bool} {t:Nat}:0<=n/\n<=9223372036854775807->ShE ⟨1,n,[],z,t,[]⟩
 | name {nm:List UInt8} {z:Bool} {t:Nat}:Dz nm=true->ShE ⟨2,0,nm,z,t,[]⟩
 | idx {nm:List UInt8} {z:Bool} {t:Nat} {a:Xp}:Dz nm=true->ShE a->ShE ⟨3,0,nm,z,t,[a]⟩
 | un {op:Int} {z:Bool} {t:Nat} {a:Xp}:op=4\/op=5->ShE a->ShE ⟨op,0,[],z,t,[a]⟩
 | bin {op:Int} {z:Bool} {t:Nat} {a b:Xp}:6<=op/\op<=18->ShE a->ShE b->ShE ⟨op,0,[],z,t,[a,b]⟩
theorem Aqh:((List.range 18).all fun i=>decide ((Bp ((i:Int)+1)).length<=2/\1<=Ap ((i:Int)+1)/\Ap ((i:Int)+1)<=7))=true:=by decide
theorem Att{op:Int}(h:1<=op/\op<=18):∃ i:Nat,i<18/\op=(i:Int)+1:=⟨(op - 1).toNat,by omega,by omega⟩
theorem W7{op:Int}(h:1<=op/\op<=18):(Bp op).length<=2/\1<=Ap op/\Ap op<=7:=by
 obtain⟨i,hi,rfl⟩:=Att h
 exact of_decide_eq_true (A3.1 Aqh i (Ej.2 hi))
theorem Aj1{x:Xp}(h:ShE x):1<=x.op/\x.op<=18:=by
 cases h with
 | num _=>exact⟨by simp,by simp⟩
 | name=>exact⟨by simp,by simp⟩
 | idx _ _=>exact⟨by simp,by simp⟩
 | un h _=>simp only;omega
 | bin h _ _=>simp only;omega
theorem Aj2{x:Xp}(h:ShE x):Cn x:=by
 induction h with
 | num h=>exact .num (by omega)
 | name _=>exact .name
 | idx _ _ ih=>exact .idx ih
 | un h _ ih=>exact .un h ih
 | bin h _ _ ih1 ih2=>exact .bin h ih1 ih2
def Hw(s:List UInt8):List Kt->Bool
 | t::_=>(t.1==3||t.1==4)&&t.2==s
 | []=>false
def Pr(lvl:Nat):List Kt->Int
 | t::_=>if t.1=4 then(if(En t.2).2=(lvl:Int) then(En t.2).1 else 0) else 0
 | []=>0
theorem M3(s:List UInt8)(ts:List Tk):Ai s ts=Hw s (ts.map Tk.kt):=by cases ts<;>rfl
theorem Ag5(lvl:Nat)(ts:List Tk):Fa lvl ts=Pr lvl (ts.map Tk.kt):=by cases ts<;>rfl
theorem Aqi:((List.range 13).all fun i=>En (Bp ((i:Int)+6))==((i:Int)+6,Ap ((i:Int)+6))&&(1<=Ap ((i:Int)+6))&&(Ap ((i:Int)+6)<=5)&&(Bp ((i:Int)+6) != [91]))=true:=by decide
theorem Ud{op:Int}(h:6<=op/\op<=18):En (Bp op)=(op,Ap op)/\1<=Ap op/\Ap op<=5/\Bp op≠[91]:=by
 obtain⟨i,hi,rfl⟩:∃ i:Nat,i<13/\op=(i:Int)+6:=⟨(op - 6).toNat,by omega,by omega⟩
 have:=A3.1 Aqi i (Ej.2 hi)
 simp only[Ae,beq_iff_eq,decide_eq_true_eq,bne_iff_ne]at this
 exact⟨this.1.1.1,this.1.1.2,this.1.2,this.2⟩
def Nk(lvl:Nat)(r:List Kt):Prop:=(∀ l:Nat,lvl<=l->Pr l r=0)/\Hw [91] r=false
theorem Aip{lvl:Nat}{r:List Kt}(h:Nk lvl r):Nk (lvl+1) r:=⟨fun l hl=>h.1 l (by omega),h.2⟩
def F8(x:Xp)(lvl:Nat):Prop:=∀ (n:Nat) (ts:List Tk) (r:List Kt),ts.map Tk.kt=G9 (x.op,x.toks) lvl++r->Nk lvl r->8*ts.length+7<=n+lvl->∃ y ts',pe n lvl ts=some (y,ts')/\ts'.map Tk.kt=r/\Fc x y=true
def Ps(x:Xp)(lvl:Nat):Prop:=∀ (n:Nat) (ts:List Tk) (r:List Kt),ts.map Tk.kt=G9 (x.op,x.toks) lvl++r->Nk (lvl+1) r->8*ts.length+7<=n+lvl->∃ y ts' m,pe n lvl ts=lp m lvl y ts'/\ts'.map Tk.kt=r/\Fc x y=true/\8*ts'.length<=m+lvl+1/\1<=m
theorem Ag6{x:Xp}{lvl:Nat}(h:Ps x lvl):F8 x lvl:=by
 intro n ts r hm hs hn
 obtain⟨y,ts',m,h1,h2,h3,h4,h5⟩:=h n ts r hm (Aip hs) hn
 refine⟨y,ts',?_,h2,h3⟩
 obtain⟨m,rfl⟩:∃ k,m=k+1:=⟨m - 1,by omega⟩
 rw[h1,lp,if_pos (by rw[Ag5,h2];exact hs.1 lvl (Ah _))]
theorem Aa6{ts:List Tk}{a b:List Kt}(h:ts.map Tk.kt=a++b):ts.length=a.length+b.length:=by
 have:=congrArg List.length h
 simpa using this
theorem Aal{x:Xp}{lvl:Nat}(hl:lvl<=5)(hne:Ap x.op≠(lvl:Int))(h:F8 x (lvl+1)):Ps x lvl:=by
 intro n ts r hm hs hn
 have e:G9 (x.op,x.toks) (lvl:Int)=G9 (x.op,x.toks) ((lvl+1:Nat):Int):=by
  unfold G9
  simp only
  by_cases h1:Ap x.op<(lvl:Int)
  ·rw[if_pos h1,if_pos (by omega)]
  ·rw[if_neg h1,if_neg (by omega)]
 rw[e]at hm
 obtain⟨n,rfl⟩:∃ k,n=k+1:=⟨n - 1,by omega⟩
 obtain⟨y,ts',h1,h2,h3⟩:=h n ts r hm hs (by omega)
 refine⟨y,ts',n,?_,h2,h3,?_,by omega⟩
 ·rw[pe,if_neg (by omega),h1]
 ·have:=Aa6 hm
  have h2':=congrArg List.length h2
  simp only[Bg]at h2'
  omega
theorem Aiq{op:Int}(h:6<=op/\op<=18){lvl:Nat}(hl:Ap op<lvl)(r:List Kt):Nk lvl ((4,Bp op)::r):=by
 obtain⟨h1,-,-,h2⟩:=Ud h
 refine⟨fun l hl'=>?_,?_⟩
 ·simp only[Pr,if_true,h1]
  rw[if_neg (by omega)]
 ·unfold Hw
  simp[h2]
theorem Lv{x:Xp}{lvl:Int}(h:lvl<=Ap x.op):G9 (x.op,x.toks) lvl=x.toks:=by
 unfold G9
 rw[if_neg (by simp only;omega)]
theorem Ag7{op:Int}{z:Bool}{t:Nat}{a b:Xp}(h:6<=op/\op<=18):Xp.toks ⟨op,0,[],z,t,[a,b]⟩=G9 (a.op,a.toks) (Fb op)++(4,Bp op)::G9 (b.op,b.toks) (Ap op+1):=by
 simp only[Xp.toks,Xp.tokss,Nj]
 rw[if_neg (by omega),if_neg (by omega)]
theorem Ag8{op:Int}{z:Bool}{t:Nat}{a b y1 y2:Xp}(h1:Fc a y1=true)(h2:Fc b y2=true):Fc ⟨op,0,[],z,t,[a,b]⟩ (Gk op y1 y2)=true:=by
 simp[Fc,F9,Gk,h1,h2]
theorem Air{op:Int}(h:6<=op/\op<=18){ts:List Tk}{r:List Kt}(hm:ts.map Tk.kt=(4,Bp op)::r){lvl:Nat}(hl:Ap op=lvl):∃ t ts',ts=t::ts'/\ts'.map Tk.kt=r/\Fa lvl ts=op/\op≠0:=by
 cases ts with
 | nil=>cases hm
 | cons t ts'=>
  rw[A1]at hm
  injection hm with h1 h2
  refine⟨t,ts',rfl,h2,?_,by omega⟩
  obtain⟨e,-⟩:=Ud h
  rw[Ag5,A1,h1]
  simp only[Pr,if_true,e,hl]
theorem Axt{op:Int}{z:Bool}{t:Nat}{a b:Xp}(h:6<=op/\op<=18){lvl:Nat}(hl:Ap op=lvl)(h3:lvl≠3)(ha:Ps a lvl)(hb:F8 b (lvl+1)):Ps ⟨op,0,[],z,t,[a,b]⟩ lvl:=by
 intro n ts r hm hs hn
 obtain⟨-,l1,l2,-⟩:=Ud h
 rw[Lv (by simp only;omega),Ag7 h,Bz,Cq]at hm
 have hle:Fb op=(lvl:Int):=by
  unfold Fb
  rw[if_neg (by omega),hl]
 rw[hle]at hm
 obtain⟨y1,ts1,m,p1,p2,p3,p4,p5⟩:=ha n ts _ hm (Aiq h (by omega) _) hn
 obtain⟨t1,ts1',rfl,q1,q2,q3⟩:=Air h p2 hl
 obtain⟨m,rfl⟩:∃ k,m=k+1:=⟨m - 1,by omega⟩
 rw[Af]at p4
 rw[hl,show((lvl:Int)+1)=((lvl+1:Nat):Int) by omega]at q1
 obtain⟨y2,ts2,s1,s2,s3⟩:=hb m ts1' r q1 hs (by omega)
 refine⟨Gk op y1 y2,ts2,m,?_,s2,Ag8 p3 s3,?_,by omega⟩
 ·rw[p1,lp,if_neg (by rw[q2];exact q3),Jj,s1]
  simp only
  rw[if_neg h3,q2]
 ·have:=Aa6 q1
  have h2':=congrArg List.length s2
  simp only[Bg]at h2'
  omega
theorem Axu{op:Int}{z:Bool}{t:Nat}{a b:Xp}(h:6<=op/\op<=18)(hl:Ap op=((3:Nat):Int))(ha:F8 a 4)(hb:F8 b 4):F8 ⟨op,0,[],z,t,[a,b]⟩ 3:=by
 intro n ts r hm hs hn
 obtain⟨-,l1,l2,-⟩:=Ud h
 rw[Lv (by simp only;omega),Ag7 h,Bz,Cq]at hm
 have hle:Fb op=((4:Nat):Int):=by
  unfold Fb
  rw[if_pos (by omega)]
  rfl
 rw[hle]at hm
 obtain⟨n,rfl⟩:∃ k,n=k+1:=⟨n - 1,by omega⟩
 obtain⟨y1,ts1,p1,p2,p3⟩:=ha n ts _ hm (Aiq h (by omega) _) (by omega)
 have hlen:=Aa6 hm
 obtain⟨t1,ts1',rfl,q1,q2,q3⟩:=Air h p2 hl
 have hlen2:=congrArg List.length p2
 simp only[Bg,Af]at hlen hlen2
 obtain⟨n,rfl⟩:∃ k,n=k+1:=⟨n - 1,by omega⟩
 rw[hl,show(((3:Nat):Int)+1)=((4:Nat):Int) by omega]at q1
 obtain⟨y2,ts2,s1,s2,s3⟩:=hb n ts1' r q1 (Aip hs) (by omega)
 refine⟨Gk op y1 y2,ts2,?_,s2,Ag8 p3 s3⟩
 rw[pe,if_neg (by omega),p1]
 simp only
 rw[lp,if_neg (by rw[q2];exact q3),Jj,s1]
 simp only[if_true]
 rw[q2]
theorem Ue{x:Xp}(hx:∀ (n:Nat) (ts:List Tk) (r:List Kt),ts.map Tk.kt=G9 (x.op,x.toks) 6++r->Nk 6 r->8*ts.length<=n->∃ y ts',pu n ts=some (y,ts')/\ts'.map Tk.kt=r/\Fc x y=true):F8 x 6:=by
 intro n ts r hm hs hn
 obtain⟨n,rfl⟩:∃ k,n=k+1:=⟨n - 1,by omega⟩
 obtain⟨y,ts',h1,h2⟩:=hx n ts r hm hs (by omega)
 exact⟨y,ts',by rw[pe,if_pos (by omega),h1],h2⟩
theorem C7{ts:List Tk}{k:Int}{w:List UInt8}{r:List Kt}(h:ts.map Tk.kt=(k,w)::r):∃ t ts',ts=t::ts'/\t.kind=k/\t.text=w/\ts'.map Tk.kt=r:=by
 cases ts with
 | nil=>cases h
 | cons t ts'=>
  rw[A1]at h
  injection h with h1 h2
  unfold Tk.kt at h1
  injection h1 with h3 h4
  exact⟨t,ts',rfl,h3,h4,h2⟩
theorem X7{n:Nat}{ts:List Tk}(h1:Ai [45] ts=false)(h2:Ai [33] ts=false):pu (n+1) ts=pp n ts:=by
 rw[pu,h1,h2]
 rfl
theorem Pk{s:List UInt8}{t:Tk}{ts:List Tk}(h:t.kind=1\/t.kind=2):Ai s (t::ts)=false:=by
 simp only[Ai]
 rcases h with h | h<;>rw[h]<;>rfl
theorem Ju{s w:List UInt8}{t:Tk}{ts:List Tk}(h:t.kind=4)(hw:t.text=w):Ai s (t::ts)=(w==s):=by
 simp only[Ai]
 rw[h,hw]
 rfl
def Im:Prop:=∀ n:Int,0<=n/\n<=9223372036854775807->Gj (Cz n)=n
theorem W8{x:Xp}{k:Nat}(hk:k<=6)(h:F8 x k):∀ (d:Nat),d<=k->(∀ l:Nat,k - d<=l->l<k->Ap x.op≠(l:Int))->F8 x (k - d)
 | 0,_,_=>h
 | d+1,hd,hl=>by
  have ih:=W8 hk h d (by omega) fun l h1 h2=>hl l (by omega) h2
  have e:k - d=k - (d+1)+1:=by omega
  rw[e]at ih
  exact Ag6 (Aal (by omega) (hl _ (Ah _) (by omega)) ih)
theorem Axv{x:Xp}(hx:Ap x.op<6)(h:F8 x 1)(h1:1<=Ap x.op):F8 x 6:=by
 refine Ue fun n ts r hm hs hn=>?_
 unfold G9 at hm
 rw[if_pos (by simpa using hx)]at hm
 simp only[Cq,Bz,Bw]at hm
 obtain⟨t,ts',rfl,k1,k2,k3⟩:=C7 hm
 rw[Af]at hn
 obtain⟨n,rfl⟩:∃ k,n=k+2:=⟨n - 2,by omega⟩
 rw[X7 (by rw[Ju k1 k2];rfl) (by rw[Ju k1 k2];rfl),pp,if_neg (by omega),if_neg (by omega),if_pos (by rw[Ju k1 k2];rfl)]
 obtain⟨y,ts1,p1,p2,p3⟩:=h n ts' _ (by rw[Lv (by simpa using h1)];exact k3) ⟨fun l _=>by
  simp only[Pr,if_true]
  rw[show En [41]=(0,0) from rfl]
  split<;>rfl,rfl⟩ (by omega)
 obtain⟨t2,ts2,rfl,e1,e2,e3⟩:=C7 p2
 refine⟨y,ts2,?_,e3,p3⟩
 rw[p1]
 simp only
 rw[if_pos (by rw[Ju e1 e2];rfl)]
 rfl
theorem Axw(hnum:Im){x:Xp}(h:ShE x):∀ lvl:Nat,1<=lvl->lvl<=6->F8 x lvl/\(lvl≠3->lvl<=5->Ps x lvl):=by
 have fin7:∀ {x:Xp},(6<=Ap x.op)->F8 x 6->∀ lvl:Nat,1<=lvl->lvl<=6->F8 x lvl/\(lvl≠3->lvl<=5->Ps x lvl):=by
  intro x h6 h lvl l1 l2
  have hr:∀ l:Nat,1<=l->l<=6->F8 x l:=fun l h1 h2=>by
   have:=W8 (Ah 6) h (6 - l) (by omega) fun k _ hk=>by omega
   rwa [show 6 - (6 - l)=l by omega]at this
  exact⟨hr lvl l1 l2,fun _ h5=>Aal h5 (by omega) (hr (lvl+1) (by omega) (by omega))⟩
 induction h with
 | @num n z t hn=>
  refine fin7 (by simp[Ap]) (Ue fun m ts r hm hs hl=>?_)
  rw[Lv (by simp[Ap])]at hm
  obtain⟨t1,ts',rfl,k1,k2,k3⟩:=C7 (r:=r) (k:=2) (w:=Cz n) (by simpa[Xp.toks,Nj] using hm)
  rw[Af]at hl
  obtain⟨m,rfl⟩:∃ k,m=k+2:=⟨m - 2,by omega⟩
  rw[X7 (Pk (.inr k1)) (Pk (.inr k1)),pp,if_pos k1]
  exact⟨_,_,rfl,k3,by rw[k2,hnum n hn];simp[Fc,F9]⟩
 | @name nm z t hn=>
  refine fin7 (by simp[Ap]) (Ue fun m ts r hm hs hl=>?_)
  rw[Lv (by simp[Ap])]at hm
  obtain⟨t1,ts',rfl,k1,k2,k3⟩:=C7 (r:=r) (k:=1) (w:=nm) (by simpa[Xp.toks,Nj] using hm)
  rw[Af]at hl
  obtain⟨m,rfl⟩:∃ k,m=k+2:=⟨m - 2,by omega⟩
  have hnb:Ai [91] ts'=false:=by rw[M3,k3];exact hs.2
  rw[X7 (Pk (.inl k1)) (Pk (.inl k1)),pp,if_neg (by omega),if_pos k1,hnb]
  exact⟨_,_,rfl,k3,by rw[k2];simp[Fc,F9]⟩
 | @idx nm z t a hn ha ih=>
  refine fin7 (by simp[Ap]) (Ue fun m ts r hm hs hl=>?_)
  rw[Lv (by simp[Ap])]at hm
  obtain⟨t1,ts1,rfl,k1,k2,k3⟩:=C7 (r:=(4,[91])::(a.toks++(4,[93])::r)) (k:=1) (w:=nm) (by simpa[Xp.toks,Xp.tokss,Nj] using hm)
  obtain⟨t2,ts2,rfl,k4,k5,k6⟩:=C7 k3
  simp only[Af]at hl
  obtain⟨m,rfl⟩:∃ k,m=k+2:=⟨m - 2,by omega⟩
  have hop:1<=Ap a.op:=by
   exact(W7 (Aj1 ha)).2.1
  obtain⟨y,ts3,p1,p2,p3⟩:=(ih 1 (by omega) (by omega)).1 m ts2 ((4,[93])::r) (by rw[Lv (by simpa using hop)];exact k6) ⟨fun l _=>by
   simp only[Pr,if_true]
   rw[show En [93]=(0,0) from rfl]
   split<;>rfl,rfl⟩ (by omega)
  obtain⟨t4,ts4,rfl,e1,e2,e3⟩:=C7 p2
  rw[X7 (Pk (.inl k1)) (Pk (.inl k1)),pp,if_neg (by omega),if_pos k1,if_pos (by rw[Ju k4 k5];rfl),Jj,p1]
  simp only
  rw[if_pos (by rw[Ju e1 e2];rfl)]
  exact⟨_,_,rfl,e3,by rw[k2];simp[Fc,F9,p3]⟩
 | @un op z t a hop ha ih=>
  have hlv:Ap op=6:=by rcases hop with rfl | rfl<;>rfl
  refine fin7 (by simp[hlv]) (Ue fun m ts r hm hs hl=>?_)
  rw[Lv (by simp[hlv])]at hm
  have e1:Xp.toks ⟨op,0,[],z,t,[a]⟩=(4,Bp op)::G9 (a.op,a.toks) 6:=by
   simp only[Xp.toks,Xp.tokss,Nj]
   rw[if_neg (by omega),if_neg (by omega),if_neg (by omega)]
  rw[e1,Cq]at hm
  obtain⟨t1,ts1,rfl,k1,k2,k3⟩:=C7 hm
  simp only[Af]at hl
  obtain⟨m,rfl⟩:∃ k,m=k+1:=⟨m - 1,by omega⟩
  obtain⟨y,ts2,p1,p2,p3⟩:=(ih 6 (by omega) (by omega)).1 (m+1) ts1 r k3 hs (by omega)
  rw[pe,if_pos (by omega)]at p1
  rcases hop with rfl | rfl
  ·rw[pu,if_pos (by rw[Ju k1 k2];rfl),Jj,p1]
   exact⟨_,_,rfl,p2,by simp[Fc,F9,Jd,p3]⟩
  ·rw[pu,if_neg (by rw[Ju k1 k2];decide),if_pos (by rw[Ju k1 k2];rfl),Jj,p1]
   exact⟨_,_,rfl,p2,by simp[Fc,F9,Jd,p3]⟩
 | @bin op z t a b hop ha hb iha ihb=>
  obtain⟨-,l1,l2,-⟩:=Ud hop
  obtain⟨L,hL⟩:∃ L:Nat,Ap op=L:=⟨(Ap op).toNat,by omega⟩
  have own:F8 ⟨op,0,[],z,t,[a,b]⟩ L/\(L≠3->Ps ⟨op,0,[],z,t,[a,b]⟩ L):=by
   by_cases h3:L=3
   ·subst h3
    exact⟨Axu hop hL (iha 4 (by omega) (by omega)).1 (ihb 4 (by omega) (by omega)).1,fun h=>absurd rfl h⟩
   ·have:=Axt (z:=z) (t:=t) hop hL h3 ((iha L (by omega) (by omega)).2 h3 (by omega)) (ihb (L+1) (by omega) (by omega)).1
    exact⟨Ag6 this,fun _=>this⟩
  have low:∀ l:Nat,1<=l->l<=L->F8 ⟨op,0,[],z,t,[a,b]⟩ l:=fun l h1 h2=>by
   have:=W8 (by omega) own.1 (L - l) (by omega) fun k h3 h4=>by simp only;omega
   rwa [show L - (L - l)=l by omega]at this
  have six:=Axv (by simp only;omega) (low 1 (by omega) (by omega)) (by simp only;omega)
  have hr:∀ l:Nat,1<=l->l<=6->F8 ⟨op,0,[],z,t,[a,b]⟩ l:=fun l h1 h2=>by
   by_cases hl:l<=L
   ·exact low l h1 hl
   ·have:=W8 (Ah 6) six (6 - l) (by omega) fun k h3 h4=>by simp only;omega
    rwa [show 6 - (6 - l)=l by omega]at this
  intro lvl q1 q2
  refine⟨hr lvl q1 q2,fun h3 h5=>?_⟩
  by_cases hl:lvl=L
  ·subst hl;exact own.2 h3
  ·exact Aal h5 (by simp only;omega) (hr (lvl+1) (by omega) (by omega))
end Go.Proofs.YtcoeikinocflnaaGreatDoor.KM
