/- Plain: the tokens of an expression's text are parsed as that expression. -/
import Derived.Test.YtlehfgdhebapeaaGreatDoorLa
set_option linter.all false
namespace Go.Proofs.YtlehfgdhebapeaaGreatDoor.KM
open Go
abbrev Kt:=Int × List UInt8
def Tk.kt(t:Tk):Kt:=(t.kind,t.text)
def putK(o:Int × List Kt)(level:Int):List Kt:=if lvE o.1<level then(4,[40])::(o.2++[(4,[41])]) else o.2
def combK(op n:Int)(nm:List UInt8)(ts:List (Int × List Kt)):List Kt:=
 if op=1 then [(2,itoaE n)] else if op=2 then [(1,nm)] else
 match ts with
 | [a]=>if op=3 then(1,nm)::(4,[91])::(a.2++[(4,[93])]) else(4,sgE op)::putK a 6
 | [a,b]=>putK a (leftE op)++(4,sgE op)::putK b (lvE op+1)
 | _=>[]
mutual
def Xp.toks:Xp→List Kt
 | ⟨op,n,nm,_,_,l⟩=>combK op n nm (Xp.tokss l)
def Xp.tokss:List Xp→List (Int × List Kt)
 | []=>[]
 | x::l=>(x.op,x.toks)::Xp.tokss l
end
inductive ShE:Xp→Prop
 | num {n:Int} {z:Bool} {t:Nat}:0≤n∧n≤9223372036854775807→ShE ⟨1,n,[],z,t,[]⟩
 | name {nm:List UInt8} {z:Bool} {t:Nat}:isNameE nm=true→ShE ⟨2,0,nm,z,t,[]⟩
 | idx {nm:List UInt8} {z:Bool} {t:Nat} {a:Xp}:isNameE nm=true→ShE a→ShE ⟨3,0,nm,z,t,[a]⟩
 | un {op:Int} {z:Bool} {t:Nat} {a:Xp}:op=4∨op=5→ShE a→ShE ⟨op,0,[],z,t,[a]⟩
 | bin {op:Int} {z:Bool} {t:Nat} {a b:Xp}:6≤op∧op≤18→ShE a→ShE b→ShE ⟨op,0,[],z,t,[a,b]⟩
theorem sgl_runs:((List.range 18).all fun i=>decide ((sgE ((i:Int)+1)).length≤2∧1≤lvE ((i:Int)+1)∧lvE ((i:Int)+1)≤7))=true:=by decide
theorem opn_nat{op:Int}(h:1≤op∧op≤18):∃ i:Nat,i<18∧op=(i:Int)+1:=⟨(op - 1).toNat,by omega,by omega⟩
theorem sgl_len{op:Int}(h:1≤op∧op≤18):(sgE op).length≤2∧1≤lvE op∧lvE op≤7:=by
 obtain⟨i,hi,rfl⟩:=opn_nat h
 exact of_decide_eq_true (List.all_eq_true.1 sgl_runs i (List.mem_range.2 hi))
theorem she_op{x:Xp}(h:ShE x):1≤x.op∧x.op≤18:=by
 cases h with
 | num _=>exact⟨by simp,by simp⟩
 | name=>exact⟨by simp,by simp⟩
 | idx _ _=>exact⟨by simp,by simp⟩
 | un h _=>simp only;omega
 | bin h _ _=>simp only;omega
theorem she_cn{x:Xp}(h:ShE x):Cn x:=by
 induction h with
 | num h=>exact .num (by omega)
 | name _=>exact .name
 | idx _ _ ih=>exact .idx ih
 | un h _ ih=>exact .un h ih
 | bin h _ _ ih1 ih2=>exact .bin h ih1 ih2
def isK(s:List UInt8):List Kt→Bool
 | t::_=>(t.1==3||t.1==4)&&t.2==s
 | []=>false
def opK(lvl:Nat):List Kt→Int
 | t::_=>if t.1=4 then(if(opT t.2).2=(lvl:Int) then(opT t.2).1 else 0) else 0
 | []=>0
theorem isT_map(s:List UInt8)(ts:List Tk):isT s ts=isK s (ts.map Tk.kt):=by cases ts<;>rfl
theorem opAt_map(lvl:Nat)(ts:List Tk):opAt lvl ts=opK lvl (ts.map Tk.kt):=by cases ts<;>rfl
theorem opT_runs:((List.range 13).all fun i=>opT (sgE ((i:Int)+6))==((i:Int)+6,lvE ((i:Int)+6))&&(1≤lvE ((i:Int)+6))&&(lvE ((i:Int)+6)≤5)&&(sgE ((i:Int)+6) != [91]))=true:=by decide
theorem opT_sg{op:Int}(h:6≤op∧op≤18):opT (sgE op)=(op,lvE op)∧1≤lvE op∧lvE op≤5∧sgE op≠[91]:=by
 obtain⟨i,hi,rfl⟩:∃ i:Nat,i<13∧op=(i:Int)+6:=⟨(op - 6).toNat,by omega,by omega⟩
 have:=List.all_eq_true.1 opT_runs i (List.mem_range.2 hi)
 simp only[Bool.and_eq_true,beq_iff_eq,decide_eq_true_eq,bne_iff_ne]at this
 exact⟨this.1.1.1,this.1.1.2,this.1.2,this.2⟩
def stopK(lvl:Nat)(r:List Kt):Prop:=(∀ l:Nat,lvl≤l→opK l r=0)∧isK [91] r=false
theorem stop_up{lvl:Nat}{r:List Kt}(h:stopK lvl r):stopK (lvl+1) r:=⟨fun l hl=>h.1 l (by omega),h.2⟩
def RTx(x:Xp)(lvl:Nat):Prop:=∀ (n:Nat) (ts:List Tk) (r:List Kt),ts.map Tk.kt=putK (x.op,x.toks) lvl++r→stopK lvl r→8*ts.length+7≤n+lvl→∃ y ts',pe n lvl ts=some (y,ts')∧ts'.map Tk.kt=r∧sameX x y=true
def LTx(x:Xp)(lvl:Nat):Prop:=∀ (n:Nat) (ts:List Tk) (r:List Kt),ts.map Tk.kt=putK (x.op,x.toks) lvl++r→stopK (lvl+1) r→8*ts.length+7≤n+lvl→∃ y ts' m,pe n lvl ts=lp m lvl y ts'∧ts'.map Tk.kt=r∧sameX x y=true∧8*ts'.length≤m+lvl+1∧1≤m
theorem rt_of_lt{x:Xp}{lvl:Nat}(h:LTx x lvl):RTx x lvl:=by
 intro n ts r hm hs hn
 obtain⟨y,ts',m,h1,h2,h3,h4,h5⟩:=h n ts r hm (stop_up hs) hn
 refine⟨y,ts',?_,h2,h3⟩
 obtain⟨m,rfl⟩:∃ k,m=k+1:=⟨m - 1,by omega⟩
 rw[h1,lp,if_pos (by rw[opAt_map,h2];exact hs.1 lvl (Nat.le_refl _))]
theorem map_len{ts:List Tk}{a b:List Kt}(h:ts.map Tk.kt=a++b):ts.length=a.length+b.length:=by
 have:=congrArg List.length h
 simpa using this
theorem lt_climb{x:Xp}{lvl:Nat}(hl:lvl≤5)(hne:lvE x.op≠(lvl:Int))(h:RTx x (lvl+1)):LTx x lvl:=by
 intro n ts r hm hs hn
 have e:putK (x.op,x.toks) (lvl:Int)=putK (x.op,x.toks) ((lvl+1:Nat):Int):=by
  unfold putK
  simp only
  by_cases h1:lvE x.op<(lvl:Int)
  ·rw[if_pos h1,if_pos (by omega)]
  ·rw[if_neg h1,if_neg (by omega)]
 rw[e]at hm
 obtain⟨n,rfl⟩:∃ k,n=k+1:=⟨n - 1,by omega⟩
 obtain⟨y,ts',h1,h2,h3⟩:=h n ts r hm hs (by omega)
 refine⟨y,ts',n,?_,h2,h3,?_,by omega⟩
 ·rw[pe,if_neg (by omega),h1]
 ·have:=map_len hm
  have h2':=congrArg List.length h2
  simp only[List.length_map]at h2'
  omega
theorem stop_op{op:Int}(h:6≤op∧op≤18){lvl:Nat}(hl:lvE op<lvl)(r:List Kt):stopK lvl ((4,sgE op)::r):=by
 obtain⟨h1,-,-,h2⟩:=opT_sg h
 refine⟨fun l hl'=>?_,?_⟩
 ·simp only[opK,if_true,h1]
  rw[if_neg (by omega)]
 ·unfold isK
  simp[h2]
theorem put_same{x:Xp}{lvl:Int}(h:lvl≤lvE x.op):putK (x.op,x.toks) lvl=x.toks:=by
 unfold putK
 rw[if_neg (by simp only;omega)]
theorem toks_bin{op:Int}{z:Bool}{t:Nat}{a b:Xp}(h:6≤op∧op≤18):Xp.toks ⟨op,0,[],z,t,[a,b]⟩=putK (a.op,a.toks) (leftE op)++(4,sgE op)::putK (b.op,b.toks) (lvE op+1):=by
 simp only[Xp.toks,Xp.tokss,combK]
 rw[if_neg (by omega),if_neg (by omega)]
theorem same_bin{op:Int}{z:Bool}{t:Nat}{a b y1 y2:Xp}(h1:sameX a y1=true)(h2:sameX b y2=true):sameX ⟨op,0,[],z,t,[a,b]⟩ (binX op y1 y2)=true:=by
 simp[sameX,sameXs,binX,h1,h2]
theorem op_head{op:Int}(h:6≤op∧op≤18){ts:List Tk}{r:List Kt}(hm:ts.map Tk.kt=(4,sgE op)::r){lvl:Nat}(hl:lvE op=lvl):∃ t ts',ts=t::ts'∧ts'.map Tk.kt=r∧opAt lvl ts=op∧op≠0:=by
 cases ts with
 | nil=>cases hm
 | cons t ts'=>
  rw[List.map_cons]at hm
  injection hm with h1 h2
  refine⟨t,ts',rfl,h2,?_,by omega⟩
  obtain⟨e,-⟩:=opT_sg h
  rw[opAt_map,List.map_cons,h1]
  simp only[opK,if_true,e,hl]
theorem lt_bin{op:Int}{z:Bool}{t:Nat}{a b:Xp}(h:6≤op∧op≤18){lvl:Nat}(hl:lvE op=lvl)(h3:lvl≠3)(ha:LTx a lvl)(hb:RTx b (lvl+1)):LTx ⟨op,0,[],z,t,[a,b]⟩ lvl:=by
 intro n ts r hm hs hn
 obtain⟨-,l1,l2,-⟩:=opT_sg h
 rw[put_same (by simp only;omega),toks_bin h,List.append_assoc,List.cons_append]at hm
 have hle:leftE op=(lvl:Int):=by
  unfold leftE
  rw[if_neg (by omega),hl]
 rw[hle]at hm
 obtain⟨y1,ts1,m,p1,p2,p3,p4,p5⟩:=ha n ts _ hm (stop_op h (by omega) _) hn
 obtain⟨t1,ts1',rfl,q1,q2,q3⟩:=op_head h p2 hl
 obtain⟨m,rfl⟩:∃ k,m=k+1:=⟨m - 1,by omega⟩
 rw[List.length_cons]at p4
 rw[hl,show((lvl:Int)+1)=((lvl+1:Nat):Int) by omega]at q1
 obtain⟨y2,ts2,s1,s2,s3⟩:=hb m ts1' r q1 hs (by omega)
 refine⟨binX op y1 y2,ts2,m,?_,s2,same_bin p3 s3,?_,by omega⟩
 ·rw[p1,lp,if_neg (by rw[q2];exact q3),List.tail_cons,s1]
  simp only
  rw[if_neg h3,q2]
 ·have:=map_len q1
  have h2':=congrArg List.length s2
  simp only[List.length_map]at h2'
  omega
theorem rt_cmp{op:Int}{z:Bool}{t:Nat}{a b:Xp}(h:6≤op∧op≤18)(hl:lvE op=((3:Nat):Int))(ha:RTx a 4)(hb:RTx b 4):RTx ⟨op,0,[],z,t,[a,b]⟩ 3:=by
 intro n ts r hm hs hn
 obtain⟨-,l1,l2,-⟩:=opT_sg h
 rw[put_same (by simp only;omega),toks_bin h,List.append_assoc,List.cons_append]at hm
 have hle:leftE op=((4:Nat):Int):=by
  unfold leftE
  rw[if_pos (by omega)]
  rfl
 rw[hle]at hm
 obtain⟨n,rfl⟩:∃ k,n=k+1:=⟨n - 1,by omega⟩
 obtain⟨y1,ts1,p1,p2,p3⟩:=ha n ts _ hm (stop_op h (by omega) _) (by omega)
 have hlen:=map_len hm
 obtain⟨t1,ts1',rfl,q1,q2,q3⟩:=op_head h p2 hl
 have hlen2:=congrArg List.length p2
 simp only[List.length_map,List.length_cons]at hlen hlen2
 obtain⟨n,rfl⟩:∃ k,n=k+1:=⟨n - 1,by omega⟩
 rw[hl,show(((3:Nat):Int)+1)=((4:Nat):Int) by omega]at q1
 obtain⟨y2,ts2,s1,s2,s3⟩:=hb n ts1' r q1 (stop_up hs) (by omega)
 refine⟨binX op y1 y2,ts2,?_,s2,same_bin p3 s3⟩
 rw[pe,if_neg (by omega),p1]
 simp only
 rw[lp,if_neg (by rw[q2];exact q3),List.tail_cons,s1]
 simp only[if_true]
 rw[q2]
theorem rt6_of{x:Xp}(hx:∀ (n:Nat) (ts:List Tk) (r:List Kt),ts.map Tk.kt=putK (x.op,x.toks) 6++r→stopK 6 r→8*ts.length≤n→∃ y ts',pu n ts=some (y,ts')∧ts'.map Tk.kt=r∧sameX x y=true):RTx x 6:=by
 intro n ts r hm hs hn
 obtain⟨n,rfl⟩:∃ k,n=k+1:=⟨n - 1,by omega⟩
 obtain⟨y,ts',h1,h2⟩:=hx n ts r hm hs (by omega)
 exact⟨y,ts',by rw[pe,if_pos (by omega),h1],h2⟩
theorem kt_cons{ts:List Tk}{k:Int}{w:List UInt8}{r:List Kt}(h:ts.map Tk.kt=(k,w)::r):∃ t ts',ts=t::ts'∧t.kind=k∧t.text=w∧ts'.map Tk.kt=r:=by
 cases ts with
 | nil=>cases h
 | cons t ts'=>
  rw[List.map_cons]at h
  injection h with h1 h2
  unfold Tk.kt at h1
  injection h1 with h3 h4
  exact⟨t,ts',rfl,h3,h4,h2⟩
theorem pu_pp{n:Nat}{ts:List Tk}(h1:isT [45] ts=false)(h2:isT [33] ts=false):pu (n+1) ts=pp n ts:=by
 rw[pu,h1,h2]
 rfl
theorem isT_k{s:List UInt8}{t:Tk}{ts:List Tk}(h:t.kind=1∨t.kind=2):isT s (t::ts)=false:=by
 simp only[isT]
 rcases h with h | h<;>rw[h]<;>rfl
theorem isT_4{s w:List UInt8}{t:Tk}{ts:List Tk}(h:t.kind=4)(hw:t.text=w):isT s (t::ts)=(w==s):=by
 simp only[isT]
 rw[h,hw]
 rfl
def NumRT:Prop:=∀ n:Int,0≤n∧n≤9223372036854775807→numV (itoaE n)=n
theorem rt_down{x:Xp}{k:Nat}(hk:k≤6)(h:RTx x k):∀ (d:Nat),d≤k→(∀ l:Nat,k - d≤l→l<k→lvE x.op≠(l:Int))→RTx x (k - d)
 | 0,_,_=>h
 | d+1,hd,hl=>by
  have ih:=rt_down hk h d (by omega) fun l h1 h2=>hl l (by omega) h2
  have e:k - d=k - (d+1)+1:=by omega
  rw[e]at ih
  exact rt_of_lt (lt_climb (by omega) (hl _ (Nat.le_refl _) (by omega)) ih)
theorem rt_par{x:Xp}(hx:lvE x.op<6)(h:RTx x 1)(h1:1≤lvE x.op):RTx x 6:=by
 refine rt6_of fun n ts r hm hs hn=>?_
 unfold putK at hm
 rw[if_pos (by simpa using hx)]at hm
 simp only[List.cons_append,List.append_assoc,List.nil_append]at hm
 obtain⟨t,ts',rfl,k1,k2,k3⟩:=kt_cons hm
 rw[List.length_cons]at hn
 obtain⟨n,rfl⟩:∃ k,n=k+2:=⟨n - 2,by omega⟩
 rw[pu_pp (by rw[isT_4 k1 k2];rfl) (by rw[isT_4 k1 k2];rfl),pp,if_neg (by omega),if_neg (by omega),if_pos (by rw[isT_4 k1 k2];rfl)]
 obtain⟨y,ts1,p1,p2,p3⟩:=h n ts' _ (by rw[put_same (by simpa using h1)];exact k3) ⟨fun l _=>by
  simp only[opK,if_true]
  rw[show opT [41]=(0,0) from rfl]
  split<;>rfl,rfl⟩ (by omega)
 obtain⟨t2,ts2,rfl,e1,e2,e3⟩:=kt_cons p2
 refine⟨y,ts2,?_,e3,p3⟩
 rw[p1]
 simp only
 rw[if_pos (by rw[isT_4 e1 e2];rfl)]
 rfl
theorem rt_all(hnum:NumRT){x:Xp}(h:ShE x):∀ lvl:Nat,1≤lvl→lvl≤6→RTx x lvl∧(lvl≠3→lvl≤5→LTx x lvl):=by
 have fin7:∀ {x:Xp},(6≤lvE x.op)→RTx x 6→∀ lvl:Nat,1≤lvl→lvl≤6→RTx x lvl∧(lvl≠3→lvl≤5→LTx x lvl):=by
  intro x h6 h lvl l1 l2
  have hr:∀ l:Nat,1≤l→l≤6→RTx x l:=fun l h1 h2=>by
   have:=rt_down (Nat.le_refl 6) h (6 - l) (by omega) fun k _ hk=>by omega
   rwa [show 6 - (6 - l)=l by omega]at this
  exact⟨hr lvl l1 l2,fun _ h5=>lt_climb h5 (by omega) (hr (lvl+1) (by omega) (by omega))⟩
 induction h with
 | @num n z t hn=>
  refine fin7 (by simp[lvE]) (rt6_of fun m ts r hm hs hl=>?_)
  rw[put_same (by simp[lvE])]at hm
  obtain⟨t1,ts',rfl,k1,k2,k3⟩:=kt_cons (r:=r) (k:=2) (w:=itoaE n) (by simpa[Xp.toks,combK] using hm)
  rw[List.length_cons]at hl
  obtain⟨m,rfl⟩:∃ k,m=k+2:=⟨m - 2,by omega⟩
  rw[pu_pp (isT_k (.inr k1)) (isT_k (.inr k1)),pp,if_pos k1]
  exact⟨_,_,rfl,k3,by rw[k2,hnum n hn];simp[sameX,sameXs]⟩
 | @name nm z t hn=>
  refine fin7 (by simp[lvE]) (rt6_of fun m ts r hm hs hl=>?_)
  rw[put_same (by simp[lvE])]at hm
  obtain⟨t1,ts',rfl,k1,k2,k3⟩:=kt_cons (r:=r) (k:=1) (w:=nm) (by simpa[Xp.toks,combK] using hm)
  rw[List.length_cons]at hl
  obtain⟨m,rfl⟩:∃ k,m=k+2:=⟨m - 2,by omega⟩
  have hnb:isT [91] ts'=false:=by rw[isT_map,k3];exact hs.2
  rw[pu_pp (isT_k (.inl k1)) (isT_k (.inl k1)),pp,if_neg (by omega),if_pos k1,hnb]
  exact⟨_,_,rfl,k3,by rw[k2];simp[sameX,sameXs]⟩
 | @idx nm z t a hn ha ih=>
  refine fin7 (by simp[lvE]) (rt6_of fun m ts r hm hs hl=>?_)
  rw[put_same (by simp[lvE])]at hm
  obtain⟨t1,ts1,rfl,k1,k2,k3⟩:=kt_cons (r:=(4,[91])::(a.toks++(4,[93])::r)) (k:=1) (w:=nm) (by simpa[Xp.toks,Xp.tokss,combK] using hm)
  obtain⟨t2,ts2,rfl,k4,k5,k6⟩:=kt_cons k3
  simp only[List.length_cons]at hl
  obtain⟨m,rfl⟩:∃ k,m=k+2:=⟨m - 2,by omega⟩
  have hop:1≤lvE a.op:=by
   exact(sgl_len (she_op ha)).2.1
  obtain⟨y,ts3,p1,p2,p3⟩:=(ih 1 (by omega) (by omega)).1 m ts2 ((4,[93])::r) (by rw[put_same (by simpa using hop)];exact k6) ⟨fun l _=>by
   simp only[opK,if_true]
   rw[show opT [93]=(0,0) from rfl]
   split<;>rfl,rfl⟩ (by omega)
  obtain⟨t4,ts4,rfl,e1,e2,e3⟩:=kt_cons p2
  rw[pu_pp (isT_k (.inl k1)) (isT_k (.inl k1)),pp,if_neg (by omega),if_pos k1,if_pos (by rw[isT_4 k4 k5];rfl),List.tail_cons,p1]
  simp only
  rw[if_pos (by rw[isT_4 e1 e2];rfl)]
  exact⟨_,_,rfl,e3,by rw[k2];simp[sameX,sameXs,p3]⟩
 | @un op z t a hop ha ih=>
  have hlv:lvE op=6:=by rcases hop with rfl | rfl<;>rfl
  refine fin7 (by simp[hlv]) (rt6_of fun m ts r hm hs hl=>?_)
  rw[put_same (by simp[hlv])]at hm
  have e1:Xp.toks ⟨op,0,[],z,t,[a]⟩=(4,sgE op)::putK (a.op,a.toks) 6:=by
   simp only[Xp.toks,Xp.tokss,combK]
   rw[if_neg (by omega),if_neg (by omega),if_neg (by omega)]
  rw[e1,List.cons_append]at hm
  obtain⟨t1,ts1,rfl,k1,k2,k3⟩:=kt_cons hm
  simp only[List.length_cons]at hl
  obtain⟨m,rfl⟩:∃ k,m=k+1:=⟨m - 1,by omega⟩
  obtain⟨y,ts2,p1,p2,p3⟩:=(ih 6 (by omega) (by omega)).1 (m+1) ts1 r k3 hs (by omega)
  rw[pe,if_pos (by omega)]at p1
  rcases hop with rfl | rfl
  ·rw[pu,if_pos (by rw[isT_4 k1 k2];rfl),List.tail_cons,p1]
   exact⟨_,_,rfl,p2,by simp[sameX,sameXs,unX,p3]⟩
  ·rw[pu,if_neg (by rw[isT_4 k1 k2];decide),if_pos (by rw[isT_4 k1 k2];rfl),List.tail_cons,p1]
   exact⟨_,_,rfl,p2,by simp[sameX,sameXs,unX,p3]⟩
 | @bin op z t a b hop ha hb iha ihb=>
  obtain⟨-,l1,l2,-⟩:=opT_sg hop
  obtain⟨L,hL⟩:∃ L:Nat,lvE op=L:=⟨(lvE op).toNat,by omega⟩
  have own:RTx ⟨op,0,[],z,t,[a,b]⟩ L∧(L≠3→LTx ⟨op,0,[],z,t,[a,b]⟩ L):=by
   by_cases h3:L=3
   ·subst h3
    exact⟨rt_cmp hop hL (iha 4 (by omega) (by omega)).1 (ihb 4 (by omega) (by omega)).1,fun h=>absurd rfl h⟩
   ·have:=lt_bin (z:=z) (t:=t) hop hL h3 ((iha L (by omega) (by omega)).2 h3 (by omega)) (ihb (L+1) (by omega) (by omega)).1
    exact⟨rt_of_lt this,fun _=>this⟩
  have low:∀ l:Nat,1≤l→l≤L→RTx ⟨op,0,[],z,t,[a,b]⟩ l:=fun l h1 h2=>by
   have:=rt_down (by omega) own.1 (L - l) (by omega) fun k h3 h4=>by simp only;omega
   rwa [show L - (L - l)=l by omega]at this
  have six:=rt_par (by simp only;omega) (low 1 (by omega) (by omega)) (by simp only;omega)
  have hr:∀ l:Nat,1≤l→l≤6→RTx ⟨op,0,[],z,t,[a,b]⟩ l:=fun l h1 h2=>by
   by_cases hl:l≤L
   ·exact low l h1 hl
   ·have:=rt_down (Nat.le_refl 6) six (6 - l) (by omega) fun k h3 h4=>by simp only;omega
    rwa [show 6 - (6 - l)=l by omega]at this
  intro lvl q1 q2
  refine⟨hr lvl q1 q2,fun h3 h5=>?_⟩
  by_cases hl:lvl=L
  ·subst hl;exact own.2 h3
  ·exact lt_climb h5 (by simp only;omega) (hr (lvl+1) (by omega) (by omega))
end Go.Proofs.YtlehfgdhebapeaaGreatDoor.KM
