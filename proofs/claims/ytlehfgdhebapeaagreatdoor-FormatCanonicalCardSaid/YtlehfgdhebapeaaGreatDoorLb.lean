/- Plain: the tokens of an expression's text are parsed as that expression. -/
import Derived.Test.YtlehfgdhebapeaaGreatDoorHx
set_option linter.all false
namespace Go.Proofs.YtlehfgdhebapeaaGreatDoor.KM
open Go
abbrev Kt:=Int × List UInt8
def Tk.kt(t:Tk):Kt:=(t.kind,t.text)
def Gk(o:Int × List Kt)(level:Int):List Kt:=if As o.1<level then(4,[40])::(o.2++[(4,[41])]) else o.2
def Lg(op n:Int)(nm:List UInt8)(ts:List (Int × List Kt)):List Kt:=
 if op=1 then [(2,A4 n)] else if op=2 then [(1,nm)] else
 match ts with
 | [a]=>if op=3 then(1,nm)::(4,[91])::(a.2++[(4,[93])]) else(4,Bh op)::Gk a 6
 | [a,b]=>Gk a (Fe op)++(4,Bh op)::Gk b (As op+1)
 | _=>[]
mutual
def Xp.toks:Xp->List Kt
 | ⟨op,n,nm,_,_,l⟩=>Lg op n nm (Xp.tokss l)
def Xp.tokss:List Xp->List (Int × List Kt)
 | []=>[]
 | x::l=>(x.op,x.toks)::Xp.tokss l
end
inductive ShE:Xp->Prop
 | num {n:Int} {z:Bool} {t:Nat}:0<=n/\n<=9223372036854775807->ShE ⟨1,n,[],z,t,[]⟩
 | name {nm:List UInt8} {z:Bool} {t:Nat}:Cx nm=true->ShE ⟨2,0,nm,z,t,[]⟩
 | idx {nm:List UInt8} {z:Bool} {t:Nat} {a:Xp}:Cx nm=true->ShE a->ShE ⟨3,0,nm,z,t,[a]⟩
 | un {op:Int} {z:Bool} {t:Nat} {a:Xp}:op=4\/op=5->ShE a->ShE ⟨op,0,[],z,t,[a]⟩
 | bin {op:Int} {z:Bool} {t:Nat} {a b:Xp}:6<=op/\op<=18->ShE a->ShE b->ShE ⟨op,0,[],z,t,[a,b]⟩
theorem Aov:((List.range 18).all fun i=>decide ((Bh ((i:Int)+1)).length<=2/\1<=As ((i:Int)+1)/\As ((i:Int)+1)<=7))=true:=by decide
theorem Arv{op:Int}(h:1<=op/\op<=18):∃ i:Nat,i<18/\op=(i:Int)+1:=⟨(op - 1).toNat,by omega,by omega⟩
theorem Wy{op:Int}(h:1<=op/\op<=18):(Bh op).length<=2/\1<=As op/\As op<=7:=by
 obtain⟨i,hi,rfl⟩:=Arv h
 exact of_decide_eq_true (A5.1 Aov i (Ew.2 hi))
theorem Ai7{x:Xp}(h:ShE x):1<=x.op/\x.op<=18:=by
 cases h with
 | num _=>exact⟨by simp,by simp⟩
 | name=>exact⟨by simp,by simp⟩
 | idx _ _=>exact⟨by simp,by simp⟩
 | un h _=>simp only;omega
 | bin h _ _=>simp only;omega
theorem Ai8{x:Xp}(h:ShE x):Cn x:=by
 induction h with
 | num h=>exact .num (by omega)
 | name _=>exact .name
 | idx _ _ ih=>exact .idx ih
 | un h _ ih=>exact .un h ih
 | bin h _ _ ih1 ih2=>exact .bin h ih1 ih2
def Ht(s:List UInt8):List Kt->Bool
 | t::_=>(t.1==3||t.1==4)&&t.2==s
 | []=>false
def Pt(lvl:Nat):List Kt->Int
 | t::_=>if t.1=4 then(if(E0 t.2).2=(lvl:Int) then(E0 t.2).1 else 0) else 0
 | []=>0
theorem Nc(s:List UInt8)(ts:List Tk):Ak s ts=Ht s (ts.map Tk.kt):=by cases ts<;>rfl
theorem Age(lvl:Nat)(ts:List Tk):Fp lvl ts=Pt lvl (ts.map Tk.kt):=by cases ts<;>rfl
theorem Aow:((List.range 13).all fun i=>E0 (Bh ((i:Int)+6))==((i:Int)+6,As ((i:Int)+6))&&(1<=As ((i:Int)+6))&&(As ((i:Int)+6)<=5)&&(Bh ((i:Int)+6) != [91]))=true:=by decide
theorem Ue{op:Int}(h:6<=op/\op<=18):E0 (Bh op)=(op,As op)/\1<=As op/\As op<=5/\Bh op≠[91]:=by
 obtain⟨i,hi,rfl⟩:∃ i:Nat,i<13/\op=(i:Int)+6:=⟨(op - 6).toNat,by omega,by omega⟩
 have:=A5.1 Aow i (Ew.2 hi)
 simp only[Ad,beq_iff_eq,decide_eq_true_eq,bne_iff_ne]at this
 exact⟨this.1.1.1,this.1.1.2,this.1.2,this.2⟩
def Nx(lvl:Nat)(r:List Kt):Prop:=(∀ l:Nat,lvl<=l->Pt l r=0)/\Ht [91] r=false
theorem Ah0{lvl:Nat}{r:List Kt}(h:Nx lvl r):Nx (lvl+1) r:=⟨fun l hl=>h.1 l (by omega),h.2⟩
def Gn(x:Xp)(lvl:Nat):Prop:=∀ (n:Nat) (ts:List Tk) (r:List Kt),ts.map Tk.kt=Gk (x.op,x.toks) lvl++r->Nx lvl r->8*ts.length+7<=n+lvl->∃ y ts',pe n lvl ts=some (y,ts')/\ts'.map Tk.kt=r/\Cw x y=true
def Pu(x:Xp)(lvl:Nat):Prop:=∀ (n:Nat) (ts:List Tk) (r:List Kt),ts.map Tk.kt=Gk (x.op,x.toks) lvl++r->Nx (lvl+1) r->8*ts.length+7<=n+lvl->∃ y ts' m,pe n lvl ts=lp m lvl y ts'/\ts'.map Tk.kt=r/\Cw x y=true/\8*ts'.length<=m+lvl+1/\1<=m
theorem Agf{x:Xp}{lvl:Nat}(h:Pu x lvl):Gn x lvl:=by
 intro n ts r hm hs hn
 obtain⟨y,ts',m,h1,h2,h3,h4,h5⟩:=h n ts r hm (Ah0 hs) hn
 refine⟨y,ts',?_,h2,h3⟩
 obtain⟨m,rfl⟩:∃ k,m=k+1:=⟨m - 1,by omega⟩
 rw[h1,lp,if_pos (by rw[Age,h2];exact hs.1 lvl (Af _))]
theorem Aas{ts:List Tk}{a b:List Kt}(h:ts.map Tk.kt=a++b):ts.length=a.length+b.length:=by
 have:=congrArg List.length h
 simpa using this
theorem Z6{x:Xp}{lvl:Nat}(hl:lvl<=5)(hne:As x.op≠(lvl:Int))(h:Gn x (lvl+1)):Pu x lvl:=by
 intro n ts r hm hs hn
 have e:Gk (x.op,x.toks) (lvl:Int)=Gk (x.op,x.toks) ((lvl+1:Nat):Int):=by
  unfold Gk
  simp only
  by_cases h1:As x.op<(lvl:Int)
  ·rw[if_pos h1,if_pos (by omega)]
  ·rw[if_neg h1,if_neg (by omega)]
 rw[e]at hm
 obtain⟨n,rfl⟩:∃ k,n=k+1:=⟨n - 1,by omega⟩
 obtain⟨y,ts',h1,h2,h3⟩:=h n ts r hm hs (by omega)
 refine⟨y,ts',n,?_,h2,h3,?_,by omega⟩
 ·rw[pe,if_neg (by omega),h1]
 ·have:=Aas hm
  have h2':=congrArg List.length h2
  simp only[Cd]at h2'
  omega
theorem Ah1{op:Int}(h:6<=op/\op<=18){lvl:Nat}(hl:As op<lvl)(r:List Kt):Nx lvl ((4,Bh op)::r):=by
 obtain⟨h1,-,-,h2⟩:=Ue h
 refine⟨fun l hl'=>?_,?_⟩
 ·simp only[Pt,if_true,h1]
  rw[if_neg (by omega)]
 ·unfold Ht
  simp[h2]
theorem L0{x:Xp}{lvl:Int}(h:lvl<=As x.op):Gk (x.op,x.toks) lvl=x.toks:=by
 unfold Gk
 rw[if_neg (by simp only;omega)]
theorem Z7{op:Int}{z:Bool}{t:Nat}{a b:Xp}(h:6<=op/\op<=18):Xp.toks ⟨op,0,[],z,t,[a,b]⟩=Gk (a.op,a.toks) (Fe op)++(4,Bh op)::Gk (b.op,b.toks) (As op+1):=by
 simp only[Xp.toks,Xp.tokss,Lg]
 rw[if_neg (by omega),if_neg (by omega)]
theorem Agg{op:Int}{z:Bool}{t:Nat}{a b y1 y2:Xp}(h1:Cw a y1=true)(h2:Cw b y2=true):Cw ⟨op,0,[],z,t,[a,b]⟩ (Gy op y1 y2)=true:=by
 simp[Cw,Cj,Gy,h1,h2]
theorem Ah2{op:Int}(h:6<=op/\op<=18){ts:List Tk}{r:List Kt}(hm:ts.map Tk.kt=(4,Bh op)::r){lvl:Nat}(hl:As op=lvl):∃ t ts',ts=t::ts'/\ts'.map Tk.kt=r/\Fp lvl ts=op/\op≠0:=by
 cases ts with
 | nil=>cases hm
 | cons t ts'=>
  rw[Ao]at hm
  injection hm with h1 h2
  refine⟨t,ts',rfl,h2,?_,by omega⟩
  obtain⟨e,-⟩:=Ue h
  rw[Age,Ao,h1]
  simp only[Pt,if_true,e,hl]
theorem Avh{op:Int}{z:Bool}{t:Nat}{a b:Xp}(h:6<=op/\op<=18){lvl:Nat}(hl:As op=lvl)(h3:lvl≠3)(ha:Pu a lvl)(hb:Gn b (lvl+1)):Pu ⟨op,0,[],z,t,[a,b]⟩ lvl:=by
 intro n ts r hm hs hn
 obtain⟨-,l1,l2,-⟩:=Ue h
 rw[L0 (by simp only;omega),Z7 h,Bl,Bg]at hm
 have hle:Fe op=(lvl:Int):=by
  unfold Fe
  rw[if_neg (by omega),hl]
 rw[hle]at hm
 obtain⟨y1,ts1,m,p1,p2,p3,p4,p5⟩:=ha n ts _ hm (Ah1 h (by omega) _) hn
 obtain⟨t1,ts1',rfl,q1,q2,q3⟩:=Ah2 h p2 hl
 obtain⟨m,rfl⟩:∃ k,m=k+1:=⟨m - 1,by omega⟩
 rw[Ag]at p4
 rw[hl,show((lvl:Int)+1)=((lvl+1:Nat):Int) by omega]at q1
 obtain⟨y2,ts2,s1,s2,s3⟩:=hb m ts1' r q1 hs (by omega)
 refine⟨Gy op y1 y2,ts2,m,?_,s2,Agg p3 s3,?_,by omega⟩
 ·rw[p1,lp,if_neg (by rw[q2];exact q3),Jg,s1]
  simp only
  rw[if_neg h3,q2]
 ·have:=Aas q1
  have h2':=congrArg List.length s2
  simp only[Cd]at h2'
  omega
theorem Avi{op:Int}{z:Bool}{t:Nat}{a b:Xp}(h:6<=op/\op<=18)(hl:As op=((3:Nat):Int))(ha:Gn a 4)(hb:Gn b 4):Gn ⟨op,0,[],z,t,[a,b]⟩ 3:=by
 intro n ts r hm hs hn
 obtain⟨-,l1,l2,-⟩:=Ue h
 rw[L0 (by simp only;omega),Z7 h,Bl,Bg]at hm
 have hle:Fe op=((4:Nat):Int):=by
  unfold Fe
  rw[if_pos (by omega)]
  rfl
 rw[hle]at hm
 obtain⟨n,rfl⟩:∃ k,n=k+1:=⟨n - 1,by omega⟩
 obtain⟨y1,ts1,p1,p2,p3⟩:=ha n ts _ hm (Ah1 h (by omega) _) (by omega)
 have hlen:=Aas hm
 obtain⟨t1,ts1',rfl,q1,q2,q3⟩:=Ah2 h p2 hl
 have hlen2:=congrArg List.length p2
 simp only[Cd,Ag]at hlen hlen2
 obtain⟨n,rfl⟩:∃ k,n=k+1:=⟨n - 1,by omega⟩
 rw[hl,show(((3:Nat):Int)+1)=((4:Nat):Int) by omega]at q1
 obtain⟨y2,ts2,s1,s2,s3⟩:=hb n ts1' r q1 (Ah0 hs) (by omega)
 refine⟨Gy op y1 y2,ts2,?_,s2,Agg p3 s3⟩
 rw[pe,if_neg (by omega),p1]
 simp only
 rw[lp,if_neg (by rw[q2];exact q3),Jg,s1]
 simp only[if_true]
 rw[q2]
theorem Uf{x:Xp}(hx:∀ (n:Nat) (ts:List Tk) (r:List Kt),ts.map Tk.kt=Gk (x.op,x.toks) 6++r->Nx 6 r->8*ts.length<=n->∃ y ts',pu n ts=some (y,ts')/\ts'.map Tk.kt=r/\Cw x y=true):Gn x 6:=by
 intro n ts r hm hs hn
 obtain⟨n,rfl⟩:∃ k,n=k+1:=⟨n - 1,by omega⟩
 obtain⟨y,ts',h1,h2⟩:=hx n ts r hm hs (by omega)
 exact⟨y,ts',by rw[pe,if_pos (by omega),h1],h2⟩
theorem Da{ts:List Tk}{k:Int}{w:List UInt8}{r:List Kt}(h:ts.map Tk.kt=(k,w)::r):∃ t ts',ts=t::ts'/\t.kind=k/\t.text=w/\ts'.map Tk.kt=r:=by
 cases ts with
 | nil=>cases h
 | cons t ts'=>
  rw[Ao]at h
  injection h with h1 h2
  unfold Tk.kt at h1
  injection h1 with h3 h4
  exact⟨t,ts',rfl,h3,h4,h2⟩
theorem X0{n:Nat}{ts:List Tk}(h1:Ak [45] ts=false)(h2:Ak [33] ts=false):pu (n+1) ts=pp n ts:=by
 rw[pu,h1,h2]
 rfl
theorem Pk{s:List UInt8}{t:Tk}{ts:List Tk}(h:t.kind=1\/t.kind=2):Ak s (t::ts)=false:=by
 simp only[Ak]
 rcases h with h | h<;>rw[h]<;>rfl
theorem Jv{s w:List UInt8}{t:Tk}{ts:List Tk}(h:t.kind=4)(hw:t.text=w):Ak s (t::ts)=(w==s):=by
 simp only[Ak]
 rw[h,hw]
 rfl
def Ia:Prop:=∀ n:Int,0<=n/\n<=9223372036854775807->Gx (A4 n)=n
theorem Wz{x:Xp}{k:Nat}(hk:k<=6)(h:Gn x k):∀ (d:Nat),d<=k->(∀ l:Nat,k - d<=l->l<k->As x.op≠(l:Int))->Gn x (k - d)
 | 0,_,_=>h
 | d+1,hd,hl=>by
  have ih:=Wz hk h d (by omega) fun l h1 h2=>hl l (by omega) h2
  have e:k - d=k - (d+1)+1:=by omega
  rw[e]at ih
  exact Agf (Z6 (by omega) (hl _ (Af _) (by omega)) ih)
theorem Avj{x:Xp}(hx:As x.op<6)(h:Gn x 1)(h1:1<=As x.op):Gn x 6:=by
 refine Uf fun n ts r hm hs hn=>?_
 unfold Gk at hm
 rw[if_pos (by simpa using hx)]at hm
 simp only[Bg,Bl,Bf]at hm
 obtain⟨t,ts',rfl,k1,k2,k3⟩:=Da hm
 rw[Ag]at hn
 obtain⟨n,rfl⟩:∃ k,n=k+2:=⟨n - 2,by omega⟩
 rw[X0 (by rw[Jv k1 k2];rfl) (by rw[Jv k1 k2];rfl),pp,if_neg (by omega),if_neg (by omega),if_pos (by rw[Jv k1 k2];rfl)]
 obtain⟨y,ts1,p1,p2,p3⟩:=h n ts' _ (by rw[L0 (by simpa using h1)];exact k3) ⟨fun l _=>by
  simp only[Pt,if_true]
  rw[show E0 [41]=(0,0) from rfl]
  split<;>rfl,rfl⟩ (by omega)
 obtain⟨t2,ts2,rfl,e1,e2,e3⟩:=Da p2
 refine⟨y,ts2,?_,e3,p3⟩
 rw[p1]
 simp only
 rw[if_pos (by rw[Jv e1 e2];rfl)]
 rfl
theorem Avk(hnum:Ia){x:Xp}(h:ShE x):∀ lvl:Nat,1<=lvl->lvl<=6->Gn x lvl/\(lvl≠3->lvl<=5->Pu x lvl):=by
 have fin7:∀ {x:Xp},(6<=As x.op)->Gn x 6->∀ lvl:Nat,1<=lvl->lvl<=6->Gn x lvl/\(lvl≠3->lvl<=5->Pu x lvl):=by
  intro x h6 h lvl l1 l2
  have hr:∀ l:Nat,1<=l->l<=6->Gn x l:=fun l h1 h2=>by
   have:=Wz (Af 6) h (6 - l) (by omega) fun k _ hk=>by omega
   rwa [show 6 - (6 - l)=l by omega]at this
  exact⟨hr lvl l1 l2,fun _ h5=>Z6 h5 (by omega) (hr (lvl+1) (by omega) (by omega))⟩
 induction h with
 | @num n z t hn=>
  refine fin7 (by simp[As]) (Uf fun m ts r hm hs hl=>?_)
  rw[L0 (by simp[As])]at hm
  obtain⟨t1,ts',rfl,k1,k2,k3⟩:=Da (r:=r) (k:=2) (w:=A4 n) (by simpa[Xp.toks,Lg] using hm)
  rw[Ag]at hl
  obtain⟨m,rfl⟩:∃ k,m=k+2:=⟨m - 2,by omega⟩
  rw[X0 (Pk (.inr k1)) (Pk (.inr k1)),pp,if_pos k1]
  exact⟨_,_,rfl,k3,by rw[k2,hnum n hn];simp[Cw,Cj]⟩
 | @name nm z t hn=>
  refine fin7 (by simp[As]) (Uf fun m ts r hm hs hl=>?_)
  rw[L0 (by simp[As])]at hm
  obtain⟨t1,ts',rfl,k1,k2,k3⟩:=Da (r:=r) (k:=1) (w:=nm) (by simpa[Xp.toks,Lg] using hm)
  rw[Ag]at hl
  obtain⟨m,rfl⟩:∃ k,m=k+2:=⟨m - 2,by omega⟩
  have hnb:Ak [91] ts'=false:=by rw[Nc,k3];exact hs.2
  rw[X0 (Pk (.inl k1)) (Pk (.inl k1)),pp,if_neg (by omega),if_pos k1,hnb]
  exact⟨_,_,rfl,k3,by rw[k2];simp[Cw,Cj]⟩
 | @idx nm z t a hn ha ih=>
  refine fin7 (by simp[As]) (Uf fun m ts r hm hs hl=>?_)
  rw[L0 (by simp[As])]at hm
  obtain⟨t1,ts1,rfl,k1,k2,k3⟩:=Da (r:=(4,[91])::(a.toks++(4,[93])::r)) (k:=1) (w:=nm) (by simpa[Xp.toks,Xp.tokss,Lg] using hm)
  obtain⟨t2,ts2,rfl,k4,k5,k6⟩:=Da k3
  simp only[Ag]at hl
  obtain⟨m,rfl⟩:∃ k,m=k+2:=⟨m - 2,by omega⟩
  have hop:1<=As a.op:=by
   exact(Wy (Ai7 ha)).2.1
  obtain⟨y,ts3,p1,p2,p3⟩:=(ih 1 (by omega) (by omega)).1 m ts2 ((4,[93])::r) (by rw[L0 (by simpa using hop)];exact k6) ⟨fun l _=>by
   simp only[Pt,if_true]
   rw[show E0 [93]=(0,0) from rfl]
   split<;>rfl,rfl⟩ (by omega)
  obtain⟨t4,ts4,rfl,e1,e2,e3⟩:=Da p2
  rw[X0 (Pk (.inl k1)) (Pk (.inl k1)),pp,if_neg (by omega),if_pos k1,if_pos (by rw[Jv k4 k5];rfl),Jg,p1]
  simp only
  rw[if_pos (by rw[Jv e1 e2];rfl)]
  exact⟨_,_,rfl,e3,by rw[k2];simp[Cw,Cj,p3]⟩
 | @un op z t a hop ha ih=>
  have hlv:As op=6:=by rcases hop with rfl | rfl<;>rfl
  refine fin7 (by simp[hlv]) (Uf fun m ts r hm hs hl=>?_)
  rw[L0 (by simp[hlv])]at hm
  have e1:Xp.toks ⟨op,0,[],z,t,[a]⟩=(4,Bh op)::Gk (a.op,a.toks) 6:=by
   simp only[Xp.toks,Xp.tokss,Lg]
   rw[if_neg (by omega),if_neg (by omega),if_neg (by omega)]
  rw[e1,Bg]at hm
  obtain⟨t1,ts1,rfl,k1,k2,k3⟩:=Da hm
  simp only[Ag]at hl
  obtain⟨m,rfl⟩:∃ k,m=k+1:=⟨m - 1,by omega⟩
  obtain⟨y,ts2,p1,p2,p3⟩:=(ih 6 (by omega) (by omega)).1 (m+1) ts1 r k3 hs (by omega)
  rw[pe,if_pos (by omega)]at p1
  rcases hop with rfl | rfl
  ·rw[pu,if_pos (by rw[Jv k1 k2];rfl),Jg,p1]
   exact⟨_,_,rfl,p2,by simp[Cw,Cj,Jd,p3]⟩
  ·rw[pu,if_neg (by rw[Jv k1 k2];decide),if_pos (by rw[Jv k1 k2];rfl),Jg,p1]
   exact⟨_,_,rfl,p2,by simp[Cw,Cj,Jd,p3]⟩
 | @bin op z t a b hop ha hb iha ihb=>
  obtain⟨-,l1,l2,-⟩:=Ue hop
  obtain⟨L,hL⟩:∃ L:Nat,As op=L:=⟨(As op).toNat,by omega⟩
  have own:Gn ⟨op,0,[],z,t,[a,b]⟩ L/\(L≠3->Pu ⟨op,0,[],z,t,[a,b]⟩ L):=by
   by_cases h3:L=3
   ·subst h3
    exact⟨Avi hop hL (iha 4 (by omega) (by omega)).1 (ihb 4 (by omega) (by omega)).1,fun h=>absurd rfl h⟩
   ·have:=Avh (z:=z) (t:=t) hop hL h3 ((iha L (by omega) (by omega)).2 h3 (by omega)) (ihb (L+1) (by omega) (by omega)).1
    exact⟨Agf this,fun _=>this⟩
  have low:∀ l:Nat,1<=l->l<=L->Gn ⟨op,0,[],z,t,[a,b]⟩ l:=fun l h1 h2=>by
   have:=Wz (by omega) own.1 (L - l) (by omega) fun k h3 h4=>by simp only;omega
   rwa [show L - (L - l)=l by omega]at this
  have six:=Avj (by simp only;omega) (low 1 (by omega) (by omega)) (by simp only;omega)
  have hr:∀ l:Nat,1<=l->l<=6->Gn ⟨op,0,[],z,t,[a,b]⟩ l:=fun l h1 h2=>by
   by_cases hl:l<=L
   ·exact low l h1 hl
   ·have:=Wz (Af 6) six (6 - l) (by omega) fun k h3 h4=>by simp only;omega
    rwa [show 6 - (6 - l)=l by omega]at this
  intro lvl q1 q2
  refine⟨hr lvl q1 q2,fun h3 h5=>?_⟩
  by_cases hl:lvl=L
  ·subst hl;exact own.2 h3
  ·exact Z6 h5 (by simp only;omega) (hr (lvl+1) (by omega) (by omega))
end Go.Proofs.YtlehfgdhebapeaaGreatDoor.KM
