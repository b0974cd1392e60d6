/- Walks: the program's texts of expressions, written into a Builder. -/
import Derived.Test.YtcoeikinocflnaaGreatDoorGb
import Derived.Test.YtcoeikinocflnaaGreatDoorYu
set_option linter.all false
namespace Go.Proofs.YtcoeikinocflnaaGreatDoor.KM
open Go
def WB(s0 s:St)(b:Nat)(l:List UInt8):Prop:=(∃ u,BL s b u l)/\Cl s/\s0.length<=s.length/\∀ (j:Nat) (cs:List V) (e g z:Nat),j≠b->e≠5->s0[j]?=some (.row cs e g z)->s[j]?=some (.row cs e g z)
theorem Ag3{s:St}{b:Nat}{u:V}{l:List UInt8}(h:BL s b u l)(hc:Cl s):WB s s b l:=⟨⟨u,h⟩,hc,Ah _,fun _ _ _ _ _ _ _ h=>h⟩
theorem Hl{s0 s1 s2:St}{b:Nat}{l l':List UInt8}(h1:WB s0 s1 b l)(h2:WB s1 s2 b l'):WB s0 s2 b l':=
 ⟨h2.1,h2.2.1,Eo h1.2.2.1 h2.2.2.1,fun j cs e g z hj he h=>h2.2.2.2 j cs e g z hj he (h1.2.2.2 j cs e g z hj he h)⟩
theorem I2{s0 s:St}{b:Nat}{l:List UInt8}{cs:List V}{t:Nat}(h:WB s0 s b l)(hr:cs.all V.rowB=true):WB s0 (s++[.row cs t 0 0]) b l:=by
 obtain⟨⟨u,h1⟩,h2,h3,h4⟩:=h
 refine⟨⟨u,Atq h1⟩,Jr h2 hr,by simp;omega,fun j cs e g z hj he h=>Dn (h4 j cs e g z hj he h)⟩
theorem O4{s0 s:St}{b:Nat}{l:List UInt8}(h:WB s0 s b l):WB s s b l:=⟨h.1,h.2.1,Ah _,fun _ _ _ _ _ _ _ h=>h⟩
theorem E5{s0 s:St}{b:Nat}{l:List UInt8}(h:WB s0 s b l)(t:List UInt8)(hb:l.length+t.length<=100000000000000):∃ s',Th TT PT 186 [.ptr b 0 0,.str t] s (.tup [.int .i64 (t.length:Int),.nili]) s'/\WB s0 s' b (l++t)/\WB s s' b (l++t):=by
 obtain⟨⟨u,h1⟩,h2,h3,h4⟩:=h
 obtain⟨s',u',q1,q2,q3,q4,q5⟩:=Aqb t h1 h2 hb
 have hw:WB s s' b (l++t):=by
  refine⟨⟨u',q2⟩,q3,q4,fun j cs e g z hj he hs=>?_⟩
  rw[q5 j hj ?_ (Au.1 hs).1]
  ·exact hs
  ·intro hm
   obtain⟨p,-,-,hg⟩:=h1
   rcases hg with⟨rfl,-⟩ | ⟨-,i,g',rfl,ho,-⟩
   ·simp[V.refs]at hm
   ·simp[V.refs]at hm
    subst hm
    rw[ho]at hs
    simp at hs
    exact he hs.2.1.symm
 exact⟨s',q1,Hl ⟨⟨u,h1⟩,h2,h3,h4⟩ hw,hw⟩
theorem Pi{T:Nat->Option AF}{pr:Nat->Option (List V->Option V)}{f p:Nat}{res:List AR}{body:AC}{vs:List V}{v:V}{σ:St}{R:St->Prop}(hT:T f=some ⟨p,res,true,body,none⟩)(hl:vs.length=p)
  (h:W T pr [.c body] (Df 0 vs) σ (Hd fun e' σ1=>B2 e' σ1 res=some v/\R σ1)) (hr:v.refs=[]) (ho:Cs v=true) (hR:∀ σ1,R σ1->σ.length<=σ1.length/\Cl σ1):∃ σ',Th T pr f vs σ v σ'/\R σ':=by
 obtain⟨e',σ1,hE,hres,h1⟩:=h
 obtain⟨h2,h3⟩:=hR σ1 h1
 exact⟨σ1,Aju hT hl ⟨e',σ1,hE,hres,rfl⟩ hr ho h2 h3,h1⟩
theorem V7{x a:Xp}{i:Nat}(h:x.l[i]?=some a)(hi:i<2):Fn TT PT 261 [.agg x.row,.int .i64 (i:Int)] (.agg a.row):=by
 have hil:=(Au.1 h).1
 rw[A9 x]
 have hset:=E8 a
 have hn:(x.l.map Xp.row).length=x.l.length:=Bg ..
 have g1:((x.l.length:Int)<=(i:Int))=False:=eq_false (by omega)
 refine Ch T261 rfl ?_
 rw[A9 a]at hset ⊢
 have hrow:a.row=[.int .i64 a.op,.int .i64 a.n,.str a.nm,SL a.z a.t (a.l.map Xp.row)]:=A9 a
 simp only[go_sem,hn,g1,A7,h,hrow]
 exact H0 hset
theorem Xo{x:Xp}(ho:1<=x.op/\x.op<=18){s0 s:St}{b:Nat}{l:List UInt8}(hx:∀ (s:St) (l:List UInt8),WB s s b l->l.length+x.txt.length<=10000000000000->∃ s',Th TT PT 249 [.ptr b 0 0,.agg x.row] s (.tup []) s'/\WB s s' b (l++x.txt))(level:Int)(h:WB s0 s b l)(hl:l.length+(Dt (x.op,x.txt) level).length<=10000000000000):
  ∃ s',Th TT PT 260 [.ptr b 0 0,.agg x.row,.int .i64 level] s (.tup []) s'/\WB s s' b (l++Dt (x.op,x.txt) level):=by
 have hop:=Ro ho
 have hset:=E8 x
 have hself:=O4 h
 refine Pi T260 rfl ?_ rfl rfl (fun σ1 h=>⟨h.2.2.1,h.2.1⟩)
 rw[A9]at hx hset ⊢
 have hrow:([V.int .i64 x.op,.int .i64 x.n,.str x.nm,SL x.z x.t (x.l.map Xp.row)]).all V.rowB=true:=hset
 obtain⟨s1,e1⟩:∃ s1,s1=s++[Ob.row [.int .i64 x.op,.int .i64 x.n,.str x.nm,SL x.z x.t (x.l.map Xp.row)] 103 0 0]:=⟨_,rfl⟩
 have w1:WB s s1 b l:=by rw[e1];exact I2 hself hrow
 have k1:s1[s.length]?=some (.row [.int .i64 x.op,.int .i64 x.n,.str x.nm,SL x.z x.t (x.l.map Xp.row)] 103 0 0):=by rw[e1,By (Ah _),Gq];rfl
 have hbn:s.length≠b:=by
  obtain⟨⟨u,p,hb,-⟩,-⟩:=h
  have:=(Au.1 hb).1
  omega
 unfold Dt at hl ⊢
 by_cases hlt:Ap x.op<level
 ·have f:(level<=Ap x.op)=False:=eq_false (by omega)
  rw[if_pos hlt]at hl ⊢
  simp only[Af,Aj,Cf]at hl
  obtain⟨s2,q2,w2,v2⟩:=E5 w1 [40] (by simp;omega)
  obtain⟨s3,q3,v3⟩:=hx s2 (l++[40]) (O4 w2) (by simp;omega)
  obtain⟨s4,q4,w4,v4⟩:=E5 (Hl w2 v3) [41] (by simp;omega)
  have k2:=v2.2.2.2 s.length _ _ _ _ hbn (by decide) k1
  simp only[go_sem]
  refine An hop (by simp only[go_sem]) ?_
  simp only[go_sem,f]
  rw[e1]at q2
  refine Dg q2 ?_
  simp only[go_sem,k2]
  refine Dg q3 ?_
  simp only[go_sem]
  refine Dg q4 ?_
  simp only[go_sem]
  exact⟨rfl,by have:=w4;simpa using this⟩
 ·have f:(level<=Ap x.op)=True:=eq_true (by omega)
  rw[if_neg hlt]at hl ⊢
  obtain⟨s3,q3,v3⟩:=hx s1 l (O4 w1) (by simp only at hl;omega)
  rw[e1]at q3
  simp only[go_sem]
  refine An hop (by simp only[go_sem]) ?_
  simp only[go_sem,f]
  refine Dg q3 ?_
  simp only[go_sem]
  exact⟨rfl,Hl w1 v3⟩
theorem Aqc{x:Xp}(h:Cn x):∀ (s:St) (b:Nat) (l:List UInt8),WB s s b l->l.length+x.txt.length<=10000000000000->∃ s',Th TT PT 249 [.ptr b 0 0,.agg x.row] s (.tup []) s'/\WB s s' b (l++x.txt):=by
 induction h with
 | @num n nm z t hn=>
  intro s b l h hl
  rw[Fw]at hl ⊢
  simp only[Cy,D6,if_true]at hl ⊢
  have hbn:s.length≠b:=by
   obtain⟨⟨u,p,hb,-⟩,-⟩:=h
   have:=(Au.1 hb).1
   omega
  have hop:=Ro (op:=1) (by omega)
  have hf:Ny [.int .i64 n,.int .i64 10]=some (.str (Cz n)):=by unfold Ny;exact if_pos hn
  refine Pi T249 rfl ?_ rfl rfl (fun σ1 h=>⟨h.2.2.1,h.2.1⟩)
  rw[A9]
  obtain⟨s1,e1⟩:∃ s1,s1=s++[Ob.row [.int .i64 1,.int .i64 n,.str nm,SL z t []] 103 0 0,Ob.row [.str (Bp 1),.int .i64 (Ap 1)] 301 0 0]:=⟨_,rfl⟩
  have w1:WB s s1 b l:=by
   have:=I2 (I2 h (t:=103) (cs:=[.int .i64 1,.int .i64 n,.str nm,SL z t []]) (by simp only[go_sem])) (t:=301) (cs:=[.str (Bp 1),.int .i64 (Ap 1)]) rfl
   rw[e1]
   simpa using this
  obtain⟨s2,q2,w2,v2⟩:=E5 w1 (Cz n) (by omega)
  rw[e1]at q2
  simp only[Cy]
  simp only[go_sem]
  refine An hop (by simp only[go_sem]) ?_
  simp only[go_sem,Int.reduceBEq]
  refine F2 P90 (by simp only[go_sem]) hf ?_
  simp only[go_sem]
  refine Dg q2 ?_
  simp only[go_sem]
  exact⟨rfl,w2⟩
 | @name n nm z t=>
  intro s b l h hl
  rw[Fw]at hl ⊢
  simp only[Cy,D6,show((2:Int)=1)=False from eq_false (by omega),if_false,if_true]at hl ⊢
  have hbn:s.length≠b:=by
   obtain⟨⟨u,p,hb,-⟩,-⟩:=h
   have:=(Au.1 hb).1
   omega
  have hop:=Ro (op:=2) (by omega)
  refine Pi T249 rfl ?_ rfl rfl (fun σ1 h=>⟨h.2.2.1,h.2.1⟩)
  rw[A9]
  obtain⟨s1,e1⟩:∃ s1,s1=s++[Ob.row [.int .i64 2,.int .i64 n,.str nm,SL z t []] 103 0 0,Ob.row [.str (Bp 2),.int .i64 (Ap 2)] 301 0 0]:=⟨_,rfl⟩
  have w1:WB s s1 b l:=by
   have:=I2 (I2 h (t:=103) (cs:=[.int .i64 2,.int .i64 n,.str nm,SL z t []]) (by simp only[go_sem])) (t:=301) (cs:=[.str (Bp 2),.int .i64 (Ap 2)]) rfl
   rw[e1]
   simpa using this
  obtain⟨s2,q2,w2,v2⟩:=E5 w1 nm (by omega)
  rw[e1]at q2
  simp only[Cy]
  have lv:(Ap 2==7)=true:=by decide
  simp only[go_sem]
  refine An hop (by simp only[go_sem]) ?_
  simp only[go_sem,Int.reduceBEq,lv]
  refine Dg q2 ?_
  simp only[go_sem]
  exact⟨rfl,w2⟩
 | @idx n nm z t a ha ih=>
  intro s b l h hl
  rw[Fw]at hl ⊢
  simp only[A1,Cy,D6,show((3:Int)=1)=False from eq_false (by omega),show((3:Int)=2)=False from eq_false (by omega),if_false,if_true]at hl ⊢
  have hl:l.length+nm.length+a.txt.length+2<=10000000000000:=by simp at hl;omega
  have hbn:s.length≠b:=by
   obtain⟨⟨u,p,hb,-⟩,-⟩:=h
   have:=(Au.1 hb).1
   omega
  have hop:=Ro (op:=3) (by omega)
  have hopd:=V7 (x:=⟨3,n,nm,z,t,[a]⟩) (a:=a) (i:=0) rfl (by omega)
  refine Pi T249 rfl ?_ rfl rfl (fun σ1 h=>⟨h.2.2.1,h.2.1⟩)
  rw[A9]at hopd ⊢
  simp only[A1,Cy]at hopd ⊢
  obtain⟨s1,e1⟩:∃ s1,s1=s++[Ob.row [.int .i64 3,.int .i64 n,.str nm,SL z t [a.row]] 103 0 0,Ob.row [.str (Bp 3),.int .i64 (Ap 3)] 301 0 0]:=⟨_,rfl⟩
  have w1:WB s s1 b l:=by
   have:=I2 (I2 h (t:=103) (cs:=[.int .i64 3,.int .i64 n,.str nm,SL z t [a.row]]) (by simp only[go_sem])) (t:=301) (cs:=[.str (Bp 3),.int .i64 (Ap 3)]) rfl
   rw[e1]
   simpa using this
  have k1:s1[s.length]?=some (.row [.int .i64 3,.int .i64 n,.str nm,SL z t [a.row]] 103 0 0):=by rw[e1,By (Ah _),Gq];rfl
  obtain⟨s2,q2,w2,v2⟩:=E5 w1 nm (by omega)
  obtain⟨s3,q3,w3,v3⟩:=E5 w2 [91] (by simp;omega)
  have k3:=(Hl v2 v3).2.2.2 s.length _ _ _ _ hbn (by decide) k1
  have hle:Dt (a.op,a.txt) 1=a.txt:=by
   unfold Dt
   have:=(Xn (Nh ha)).2.1
   exact if_neg (by simp only;omega)
  obtain⟨s4,q4,v4⟩:=Xo (Nh ha) (fun s l h hl=>ih s b l h hl) 1 w3 (by rw[hle];simp;omega)
  rw[hle]at v4
  obtain⟨s5,q5,w5,v5⟩:=E5 (Hl w3 v4) [93] (by simp;omega)
  rw[e1]at q2
  have haset:=E8 a
  simp only[go_sem]
  refine An hop (by simp only[go_sem]) ?_
  simp only[go_sem,Int.reduceBEq]
  refine Dg q2 ?_
  simp only[go_sem]
  refine Dg q3 ?_
  simp only[go_sem,k3]
  refine An hopd (by simp only[go_sem]) ?_
  simp only[go_sem]
  refine Dg q4 ?_
  simp only[go_sem]
  refine Dg q5 ?_
  simp only[go_sem]
  exact⟨rfl,by have:=w5;simpa using this⟩
 | @un op n nm z t a hop' ha ih=>
  intro s b l h hl
  have ho:1<=op/\op<=18:=by omega
  have hlv:Ap op=6:=by rcases hop' with rfl | rfl<;>rfl
  rw[Fw]at hl ⊢
  have e0:D6 op n nm [(a.op,a.txt)]=Bp op++Dt (a.op,a.txt) 6:=by
   unfold D6
   rw[if_neg (by omega),if_neg (by omega)]
   simp only
   rw[if_neg (by omega)]
  simp only[A1,Cy,e0,Aj]at hl ⊢
  obtain⟨p1,p2⟩:=O3 (a.op,a.txt) 6
  simp only at p1
  have hbn:s.length≠b:=by
   obtain⟨⟨u,p,hb,-⟩,-⟩:=h
   have:=(Au.1 hb).1
   omega
  have hop:=Ro ho
  rw[hlv]at hop
  have hopd:=V7 (x:=⟨op,n,nm,z,t,[a]⟩) (a:=a) (i:=0) rfl (by omega)
  refine Pi T249 rfl ?_ rfl rfl (fun σ1 h=>⟨h.2.2.1,h.2.1⟩)
  rw[A9]at hopd ⊢
  simp only[A1,Cy]at hopd ⊢
  obtain⟨s1,e1⟩:∃ s1,s1=s++[Ob.row [.int .i64 op,.int .i64 n,.str nm,SL z t [a.row]] 103 0 0,Ob.row [.str (Bp op),.int .i64 6] 301 0 0]:=⟨_,rfl⟩
  have w1:WB s s1 b l:=by
   have:=I2 (I2 h (t:=103) (cs:=[.int .i64 op,.int .i64 n,.str nm,SL z t [a.row]]) (by simp only[go_sem])) (t:=301) (cs:=[.str (Bp op),.int .i64 6]) rfl
   rw[e1]
   simpa using this
  have k1:s1[s.length]?=some (.row [.int .i64 op,.int .i64 n,.str nm,SL z t [a.row]] 103 0 0):=by rw[e1,By (Ah _),Gq];rfl
  obtain⟨s2,q2,w2,v2⟩:=E5 w1 (Bp op) (by omega)
  have k2:=v2.2.2.2 s.length _ _ _ _ hbn (by decide) k1
  obtain⟨s3,q3,v3⟩:=Xo (Nh ha) (fun s l h hl=>ih s b l h hl) 6 w2 (by simp;omega)
  rw[e1]at q2
  have b1:(op==1)=false:=by simp;omega
  have b3:(op==3)=false:=by simp;omega
  simp only[go_sem]
  refine An hop (by simp only[go_sem]) ?_
  simp only[go_sem,Int.reduceBEq,b1,b3]
  refine Dg q2 ?_
  simp only[go_sem,k2]
  refine An hopd (by simp only[go_sem]) ?_
  simp only[go_sem]
  refine Dg q3 ?_
  simp only[go_sem]
  exact⟨rfl,by have:=Hl w2 v3;simpa using this⟩
 | @bin op n nm z t a c hop' ha hc iha ihc=>
  intro s b l h hl
  have ho:1<=op/\op<=18:=by omega
  obtain⟨s1',s2',s3'⟩:=Xn ho
  have hlv:Ap op<6:=by
   obtain⟨i,hi,rfl⟩:=Uc ho
   have:((List.range 18).all fun i=>decide (5<=i->Ap ((i:Int)+1)<6))=true:=by decide
   exact of_decide_eq_true (A3.1 this i (Ej.2 hi)) (by omega)
  rw[Fw]at hl ⊢
  have e0:D6 op n nm [(a.op,a.txt),(c.op,c.txt)]=Dt (a.op,a.txt) (Fb op)++32::(Bp op++32::Dt (c.op,c.txt) (Ap op+1)):=by
   unfold D6
   rw[if_neg (by omega),if_neg (by omega)]
  simp only[A1,Cy,e0,Aj,Af]at hl ⊢
  have hbn:s.length≠b/\s.length+1≠b:=by
   obtain⟨⟨u,p,hb,-⟩,-⟩:=h
   have:=(Au.1 hb).1
   omega
  have hop:=Ro ho
  have hopa:=V7 (x:=⟨op,n,nm,z,t,[a,c]⟩) (a:=a) (i:=0) rfl (by omega)
  have hopc:=V7 (x:=⟨op,n,nm,z,t,[a,c]⟩) (a:=c) (i:=1) rfl (by omega)
  refine Pi T249 rfl ?_ rfl rfl (fun σ1 h=>⟨h.2.2.1,h.2.1⟩)
  rw[A9]at hopa hopc ⊢
  simp only[A1,Cy]at hopa hopc ⊢
  obtain⟨s1,e1⟩:∃ s1,s1=s++[Ob.row [.int .i64 op,.int .i64 n,.str nm,SL z t [a.row,c.row]] 103 0 0,Ob.row [.str (Bp op),.int .i64 (Ap op)] 301 0 0]:=⟨_,rfl⟩
  have w1:WB s s1 b l:=by
   have:=I2 (I2 h (t:=103) (cs:=[.int .i64 op,.int .i64 n,.str nm,SL z t [a.row,c.row]]) (by simp only[go_sem])) (t:=301) (cs:=[.str (Bp op),.int .i64 (Ap op)]) rfl
   rw[e1]
   simpa using this
  have k1:s1[s.length]?=some (.row [.int .i64 op,.int .i64 n,.str nm,SL z t [a.row,c.row]] 103 0 0):=by rw[e1,By (Ah _),Gq];rfl
  have m1:s1[s.length+1]?=some (.row [.str (Bp op),.int .i64 (Ap op)] 301 0 0):=by rw[e1,By (by omega),Nat.add_sub_cancel_left];rfl
  have hle:Fb op=(if(Ap op==3)=true then 4 else Ap op):=by unfold Fb;simp
  obtain⟨s2,q2,v2⟩:=Xo (Nh ha) (fun s l h hl=>iha s b l h hl) (Fb op) w1 (by omega)
  have k2:=v2.2.2.2 s.length _ _ _ _ hbn.1 (by decide) k1
  have m2:=v2.2.2.2 (s.length+1) _ _ _ _ hbn.2 (by decide) m1
  obtain⟨s3,q3,w3,v3⟩:=E5 v2 [32] (by simp;omega)
  have k3:=v3.2.2.2 s.length _ _ _ _ hbn.1 (by decide) k2
  have m3:=v3.2.2.2 (s.length+1) _ _ _ _ hbn.2 (by decide) m2
  obtain⟨s4,q4,w4,v4⟩:=E5 v3 (Bp op) (by simp;omega)
  have k4:=v4.2.2.2 s.length _ _ _ _ hbn.1 (by decide) k3
  have m4:=v4.2.2.2 (s.length+1) _ _ _ _ hbn.2 (by decide) m3
  obtain⟨s5,q5,w5,v5⟩:=E5 v4 [32] (by simp;omega)
  have k5:=v5.2.2.2 s.length _ _ _ _ hbn.1 (by decide) k4
  have m5:=v5.2.2.2 (s.length+1) _ _ _ _ hbn.2 (by decide) m4
  obtain⟨s6,q6,v6⟩:=Xo (Nh hc) (fun s l h hl=>ihc s b l h hl) (Ap op+1) v5 (by simp;omega)
  rw[e1]at q2
  have b1:(op==1)=false:=by simp;omega
  have b3:(op==3)=false:=by simp;omega
  have b7:(Ap op==7)=false:=by simp;omega
  have b6:(Ap op==6)=false:=by simp;omega
  have wi:IntKind.i64.wrap (Ap op+1)=Ap op+1:=Ed (by omega)
  have fin:WB s s6 b (l++(Dt (a.op,a.txt) (Fb op)++32::(Bp op++32::Dt (c.op,c.txt) (Ap op+1)))):=by
   have:=Hl w1 (Hl v2 (Hl v3 (Hl v4 (Hl v5 v6))))
   simpa using this
  cases h3:(Ap op==3)
  all_goals
   rw[h3]at hle
   simp only[if_true,if_false,Eh]at hle
   rw[hle]at q2
   simp only[go_sem]
   refine An hop (by simp only[go_sem]) ?_
   simp only[go_sem,Int.reduceBEq,b1,b3,b7,b6,h3]
   refine An hopa (by simp only[go_sem]) ?_
   simp only[go_sem]
   refine Dg q2 ?_
   simp only[go_sem]
   refine Dg q3 ?_
   simp only[go_sem,m3]
   refine Dg q4 ?_
   simp only[go_sem]
   refine Dg q5 ?_
   simp only[go_sem]
   refine Ax (by kernel_rfl) ?_
   simp only[go_sem,k5]
   refine Cm hopc (by simp only[go_sem]) ?_
   simp only[go_sem,m5,wi]
   refine Aw0 q6 (by repeat (first | exact trivial | refine⟨.inl (by rfl),?_⟩ | refine⟨by rfl,?_⟩ | refine⟨.inr ⟨by rfl,by rfl⟩,?_⟩)) (by repeat (first | exact trivial | refine⟨.inl (by rfl),?_⟩ | refine⟨by rfl,?_⟩ | refine⟨.inr ⟨by rfl,by rfl⟩,?_⟩)) ?_
   simp only[go_sem]
   exact⟨rfl,fin⟩
end Go.Proofs.YtcoeikinocflnaaGreatDoor.KM
