/- Walks: the program's texts of expressions, written into a Builder. -/
import Derived.Test.YthlbbjcbmojocabGreatDoorPa
set_option linter.all false
namespace Go.Proofs.YthlbbjcbmojocabGreatDoor.KM
open Go
def WB(s0 s:St)(b:Nat)(l:List UInt8):Prop:=(∃ u,BL s b u l)/\Cl s/\s0.length<=s.length/\∀ (j:Nat) (cs:List V) (e g z:Nat),j≠b->e≠5->s0[j]?=some (.row cs e g z)->s[j]?=some (.row cs e g z)
def Amr{s:St}{b:Nat}{u:V}{l:List UInt8}(h:BL s b u l)(hc:Cl s):WB s s b l:=⟨⟨u,h⟩,hc,Ai _,fun _ _ _ _ _ _ _ h=>h⟩
def I8{s0 s1 s2:St}{b:Nat}{l l':List UInt8}(h1:WB s0 s1 b l)(h2:WB s1 s2 b l'):WB s0 s2 b l':=
 ⟨h2.1,h2.2.1,Cz h1.2.2.1 h2.2.2.1,fun j cs e g z hj he h=>h2.2.2.2 j cs e g z hj he (h1.2.2.2 j cs e g z hj he h)⟩
def Lt{s0 s:St}{b:Nat}{l:List UInt8}{cs:List V}{t:Nat}(h:WB s0 s b l)(hr:cs.all V.rowB=true):WB s0 (s++[.row cs t 0 0]) b l:=by
 obtain⟨⟨u,h1⟩,h2,h3,h4⟩:=h;refine⟨⟨u,A14 h1⟩,H5 h2 hr,by simp;omega,fun j cs e g z hj he h=>B5 (h4 j cs e g z hj he h)⟩
def R6{s0 s:St}{b:Nat}{l:List UInt8}(h:WB s0 s b l):WB s s b l:=⟨h.1,h.2.1,Ai _,fun _ _ _ _ _ _ _ h=>h⟩
def Gg{s0 s:St}{b:Nat}{l:List UInt8}(h:WB s0 s b l)(t:List UInt8)(hb:l.length+t.length<=100000000000000):∃ s',Th TT PT 102 [.ptr b 0 0,.str t] s (.tup [iV (t.length:Int),.nili]) s'/\WB s0 s' b (l++t)/\WB s s' b (l++t):=by
 obtain⟨⟨u,h1⟩,h2,h3,h4⟩:=h;obtain⟨s',u',q1,q2,q3,q4,q5⟩:=Axz t h1 h2 hb
 have hw:WB s s' b (l++t):=by
  refine⟨⟨u',q2⟩,q3,q4,fun j cs e g z hj he hs=>?_⟩;rw[q5 j hj ?_ (Aq.1 hs).1]
  .exact hs
  .intro hm;obtain⟨p,-,-,hg⟩:=h1;rcases hg with⟨rfl,-⟩ | ⟨-,i,g',rfl,ho,-⟩
   .simp[V.refs]at hm
   .simp[V.refs]at hm;subst hm;rw[ho]at hs;simp at hs;exact he hs.2.1.symm
 exact⟨s',q1,I8 ⟨⟨u,h1⟩,h2,h3,h4⟩ hw,hw⟩
def Sk{T:Nat->Option AF}{pr:Nat->Option (List V->Option V)}{f p:Nat}{res:List AR}{body:AC}{vs:List V}{v:V}{σ:St}{R:St->Prop}(hT:T f=some ⟨p,res,true,body,none⟩)(hl:vs.length=p)
  (h:W T pr [.c body] (Da 0 vs) σ (Hd fun e' σ1=>Ch e' σ1 res=some v/\R σ1)) (hr:v.refs=[]) (ho:Cq v=true) (hR:∀ σ1,R σ1->σ.length<=σ1.length/\Cl σ1):∃ σ',Th T pr f vs σ v σ'/\R σ':=by
 obtain⟨e',σ1,hE,qt,h1⟩:=h;obtain⟨h2,h3⟩:=hR σ1 h1;exact⟨σ1,Agu hT hl ⟨e',σ1,hE,qt,rfl⟩ hr ho h2 h3,h1⟩
def Aaa{x a:Xp}{i:Nat}(h:x.l[i]?=some a)(hi:i<2):Fn TT PT 167 [.agg x.row,iV (i:Int)] (.agg a.row):=by
 have qy:=(Aq.1 h).1;rw[Bb x];have qf:=Dm a;have hn:(x.l.map Xp.row).length=x.l.length:=Ba ..;have g1:((x.l.length:Int)<=(i:Int))=False:=eq_false (by omega);refine Bz T167 rfl ?_;rw[Bb a]at qf ⊢;have qa:a.row=[iV a.op,iV a.n,.str a.nm,SL a.z a.t (a.l.map Xp.row)]:=Bb a;simp only[go_sem,hn,g1,Av,h,qa];exact G6 qf
def Ab1{x:Xp}(ho:1<=x.op/\x.op<=18){s0 s:St}{b:Nat}{l:List UInt8}(hx:∀ (s:St) (l:List UInt8),WB s s b l->l.length+x.txt.length<=10000000000000->∃ s',Th TT PT 155 [.ptr b 0 0,.agg x.row] s (.tup []) s'/\WB s s' b (l++x.txt))(qe:Int)(h:WB s0 s b l)(hl:l.length+(Dh (x.op,x.txt) qe).length<=10000000000000):
  ∃ s',Th TT PT 166 [.ptr b 0 0,.agg x.row,iV qe] s (.tup []) s'/\WB s s' b (l++Dh (x.op,x.txt) qe):=by
 have qh:=Vg ho;have qf:=Dm x;have qo:=R6 h;refine Sk T166 rfl ?_ rfl rfl (fun σ1 h=>⟨h.2.2.1,h.2.1⟩);rw[Bb]at hx qf ⊢;have qa:([iV x.op,iV x.n,.str x.nm,SL x.z x.t (x.l.map Xp.row)]).all V.rowB=true:=qf;obtain⟨s1,e1⟩:∃ s1,s1=s++[Ob.row [iV x.op,iV x.n,.str x.nm,SL x.z x.t (x.l.map Xp.row)] 76 0 0]:=⟨_,rfl⟩;have w1:WB s s1 b l:=by rw[e1];exact Lt qo qa
 have k1:s1[s.length]?=some (.row [iV x.op,iV x.n,.str x.nm,SL x.z x.t (x.l.map Xp.row)] 76 0 0):=by rw[e1,Cd (Ai _),Hh];rfl
 have qc:s.length≠b:=by
  obtain⟨⟨u,p,hb,-⟩,-⟩:=h;have:=(Aq.1 hb).1;omega
 unfold Dh at hl ⊢;by_cases qA:A1 x.op<qe
 .have f:(qe<=A1 x.op)=False:=eq_false (by omega);rw[if_pos qA]at hl ⊢;simp only[Ah,Aj,C8]at hl;obtain⟨s2,q2,w2,v2⟩:=Gg w1 [40] (by simp;omega);obtain⟨s3,q3,v3⟩:=hx s2 (l++[40]) (R6 w2) (by simp;omega);obtain⟨s4,q4,w4,v4⟩:=Gg (I8 w2 v3) [41] (by simp;omega);have k2:=v2.2.2.2 s.length _ _ _ _ qc (by decide) k1;simp only[go_sem];refine Ad qh (by simp only[go_sem]) ?_;simp only[go_sem,f];rw[e1]at q2;refine Cg q2 ?_;simp only[go_sem,k2];refine Cg q3 ?_;simp only[go_sem];refine Cg q4 ?_;simp only[go_sem];exact⟨rfl,by have:=w4;simpa using this⟩
 .have f:(qe<=A1 x.op)=True:=eq_true (by omega);rw[if_neg qA]at hl ⊢;obtain⟨s3,q3,v3⟩:=hx s1 l (R6 w1) (by simp only at hl;omega);rw[e1]at q3;simp only[go_sem];refine Ad qh (by simp only[go_sem]) ?_;simp only[go_sem,f];refine Cg q3 ?_;simp only[go_sem];exact⟨rfl,I8 w1 v3⟩
def Ax0{x:Xp}(h:Cn x):∀ (s:St) (b:Nat) (l:List UInt8),WB s s b l->l.length+x.txt.length<=10000000000000->∃ s',Th TT PT 155 [.ptr b 0 0,.agg x.row] s (.tup []) s'/\WB s s' b (l++x.txt):=by
 induction h with
 | @num n nm z t hn=>
  intro s b l h hl;rw[E9]at hl ⊢;simp only[B6,Dr,if_true]at hl ⊢
  have qc:s.length≠b:=by
   obtain⟨⟨u,p,hb,-⟩,-⟩:=h;have:=(Aq.1 hb).1;omega
  have qh:=Vg (op:=1) (by omega);have hf:N5 [iV n,iV 10]=some (.str (Bw n)):=by unfold N5;exact if_pos hn
  refine Sk T155 rfl ?_ rfl rfl (fun σ1 h=>⟨h.2.2.1,h.2.1⟩);rw[Bb];obtain⟨s1,e1⟩:∃ s1,s1=s++[Ob.row [iV 1,iV n,.str nm,SL z t []] 76 0 0,Ob.row [.str (By 1),iV (A1 1)] 221 0 0]:=⟨_,rfl⟩
  have w1:WB s s1 b l:=by
   have:=Lt (Lt h (t:=76) (cs:=[iV 1,iV n,.str nm,SL z t []]) (by simp only[go_sem])) (t:=221) (cs:=[.str (By 1),iV (A1 1)]) rfl;rw[e1];simpa using this
  obtain⟨s2,q2,w2,v2⟩:=Gg w1 (Bw n) (by omega);rw[e1]at q2;simp only[B6];simp only[go_sem];refine Ad qh (by simp only[go_sem]) ?_;simp only[go_sem,Int.reduceBEq];refine F0 P40 (by simp only[go_sem]) hf ?_;simp only[go_sem];refine Cg q2 ?_;simp only[go_sem];exact⟨rfl,w2⟩
 | @name n nm z t=>
  intro s b l h hl;rw[E9]at hl ⊢;simp only[B6,Dr,show((2:Int)=1)=False from eq_false (by omega),if_false,if_true]at hl ⊢
  have qc:s.length≠b:=by
   obtain⟨⟨u,p,hb,-⟩,-⟩:=h;have:=(Aq.1 hb).1;omega
  have qh:=Vg (op:=2) (by omega);refine Sk T155 rfl ?_ rfl rfl (fun σ1 h=>⟨h.2.2.1,h.2.1⟩);rw[Bb];obtain⟨s1,e1⟩:∃ s1,s1=s++[Ob.row [iV 2,iV n,.str nm,SL z t []] 76 0 0,Ob.row [.str (By 2),iV (A1 2)] 221 0 0]:=⟨_,rfl⟩
  have w1:WB s s1 b l:=by
   have:=Lt (Lt h (t:=76) (cs:=[iV 2,iV n,.str nm,SL z t []]) (by simp only[go_sem])) (t:=221) (cs:=[.str (By 2),iV (A1 2)]) rfl;rw[e1];simpa using this
  obtain⟨s2,q2,w2,v2⟩:=Gg w1 nm (by omega);rw[e1]at q2;simp only[B6];have lv:(A1 2==7)=true:=by decide
  simp only[go_sem];refine Ad qh (by simp only[go_sem]) ?_;simp only[go_sem,Int.reduceBEq,lv];refine Cg q2 ?_;simp only[go_sem];exact⟨rfl,w2⟩
 | @idx n nm z t a ha ih=>
  intro s b l h hl;rw[E9]at hl ⊢;simp only[Aw,B6,Dr,show((3:Int)=1)=False from eq_false (by omega),show((3:Int)=2)=False from eq_false (by omega),if_false,if_true]at hl ⊢;have hl:l.length+nm.length+a.txt.length+2<=10000000000000:=by simp at hl;omega
  have qc:s.length≠b:=by
   obtain⟨⟨u,p,hb,-⟩,-⟩:=h;have:=(Aq.1 hb).1;omega
  have qh:=Vg (op:=3) (by omega);have qg:=Aaa (x:=⟨3,n,nm,z,t,[a]⟩) (a:=a) (i:=0) rfl (by omega);refine Sk T155 rfl ?_ rfl rfl (fun σ1 h=>⟨h.2.2.1,h.2.1⟩);rw[Bb]at qg ⊢;simp only[Aw,B6]at qg ⊢;obtain⟨s1,e1⟩:∃ s1,s1=s++[Ob.row [iV 3,iV n,.str nm,SL z t [a.row]] 76 0 0,Ob.row [.str (By 3),iV (A1 3)] 221 0 0]:=⟨_,rfl⟩
  have w1:WB s s1 b l:=by
   have:=Lt (Lt h (t:=76) (cs:=[iV 3,iV n,.str nm,SL z t [a.row]]) (by simp only[go_sem])) (t:=221) (cs:=[.str (By 3),iV (A1 3)]) rfl;rw[e1];simpa using this
  have k1:s1[s.length]?=some (.row [iV 3,iV n,.str nm,SL z t [a.row]] 76 0 0):=by rw[e1,Cd (Ai _),Hh];rfl
  obtain⟨s2,q2,w2,v2⟩:=Gg w1 nm (by omega);obtain⟨s3,q3,w3,v3⟩:=Gg w2 [91] (by simp;omega);have k3:=(I8 v2 v3).2.2.2 s.length _ _ _ _ qc (by decide) k1
  have ql:Dh (a.op,a.txt) 1=a.txt:=by
   unfold Dh;have:=(Ab0 (Qs ha)).2.1;exact if_neg (by simp only;omega)
  obtain⟨s4,q4,v4⟩:=Ab1 (Qs ha) (fun s l h hl=>ih s b l h hl) 1 w3 (by rw[ql];simp;omega);rw[ql]at v4;obtain⟨s5,q5,w5,v5⟩:=Gg (I8 w3 v4) [93] (by simp;omega);rw[e1]at q2;have qw:=Dm a;simp only[go_sem];refine Ad qh (by simp only[go_sem]) ?_;simp only[go_sem,Int.reduceBEq];refine Cg q2 ?_;simp only[go_sem];refine Cg q3 ?_;simp only[go_sem,k3];refine Ad qg (by simp only[go_sem]) ?_;simp only[go_sem];refine Cg q4 ?_;simp only[go_sem];refine Cg q5 ?_;simp only[go_sem];exact⟨rfl,by have:=w5;simpa using this⟩
 | @un op n nm z t a qn ha ih=>
  intro s b l h hl;have ho:1<=op/\op<=18:=by omega
  have qB:A1 op=6:=by rcases qn with rfl | rfl<;>rfl
  rw[E9]at hl ⊢
  have e0:Dr op n nm [(a.op,a.txt)]=By op++Dh (a.op,a.txt) 6:=by
   unfold Dr;rw[if_neg (by omega),if_neg (by omega)];simp only;rw[if_neg (by omega)]
  simp only[Aw,B6,e0,Aj]at hl ⊢;obtain⟨p1,p2⟩:=Mq (a.op,a.txt) 6;simp only at p1
  have qc:s.length≠b:=by
   obtain⟨⟨u,p,hb,-⟩,-⟩:=h;have:=(Aq.1 hb).1;omega
  have qh:=Vg ho;rw[qB]at qh;have qg:=Aaa (x:=⟨op,n,nm,z,t,[a]⟩) (a:=a) (i:=0) rfl (by omega);refine Sk T155 rfl ?_ rfl rfl (fun σ1 h=>⟨h.2.2.1,h.2.1⟩);rw[Bb]at qg ⊢;simp only[Aw,B6]at qg ⊢;obtain⟨s1,e1⟩:∃ s1,s1=s++[Ob.row [iV op,iV n,.str nm,SL z t [a.row]] 76 0 0,Ob.row [.str (By op),iV 6] 221 0 0]:=⟨_,rfl⟩
  have w1:WB s s1 b l:=by
   have:=Lt (Lt h (t:=76) (cs:=[iV op,iV n,.str nm,SL z t [a.row]]) (by simp only[go_sem])) (t:=221) (cs:=[.str (By op),iV 6]) rfl;rw[e1];simpa using this
  have k1:s1[s.length]?=some (.row [iV op,iV n,.str nm,SL z t [a.row]] 76 0 0):=by rw[e1,Cd (Ai _),Hh];rfl
  obtain⟨s2,q2,w2,v2⟩:=Gg w1 (By op) (by omega);have k2:=v2.2.2.2 s.length _ _ _ _ qc (by decide) k1;obtain⟨s3,q3,v3⟩:=Ab1 (Qs ha) (fun s l h hl=>ih s b l h hl) 6 w2 (by simp;omega);rw[e1]at q2;have b1:(op==1)=false:=by simp;omega
  have b3:(op==3)=false:=by simp;omega
  simp only[go_sem];refine Ad qh (by simp only[go_sem]) ?_;simp only[go_sem,Int.reduceBEq,b1,b3];refine Cg q2 ?_;simp only[go_sem,k2];refine Ad qg (by simp only[go_sem]) ?_;simp only[go_sem];refine Cg q3 ?_;simp only[go_sem];exact⟨rfl,by have:=I8 w2 v3;simpa using this⟩
 | @bin op n nm z t a c qn ha hc iha ihc=>
  intro s b l h hl;have ho:1<=op/\op<=18:=by omega
  obtain⟨qO,qQ,qR⟩:=Ab0 ho
  have qB:A1 op<6:=by
   obtain⟨i,hi,rfl⟩:=X4 ho;have:((List.range 18).all fun i=>decide (5<=i->A1 ((i:Int)+1)<6))=true:=by decide
   exact of_decide_eq_true (Bh.1 this i (En.2 hi)) (by omega)
  rw[E9]at hl ⊢
  have e0:Dr op n nm [(a.op,a.txt),(c.op,c.txt)]=Dh (a.op,a.txt) (Fu op)++32::(By op++32::Dh (c.op,c.txt) (A1 op+1)):=by
   unfold Dr;rw[if_neg (by omega),if_neg (by omega)]
  simp only[Aw,B6,e0,Aj,Ah]at hl ⊢
  have qc:s.length≠b/\s.length+1≠b:=by
   obtain⟨⟨u,p,hb,-⟩,-⟩:=h;have:=(Aq.1 hb).1;omega
  have qh:=Vg ho;have qi:=Aaa (x:=⟨op,n,nm,z,t,[a,c]⟩) (a:=a) (i:=0) rfl (by omega);have qj:=Aaa (x:=⟨op,n,nm,z,t,[a,c]⟩) (a:=c) (i:=1) rfl (by omega);refine Sk T155 rfl ?_ rfl rfl (fun σ1 h=>⟨h.2.2.1,h.2.1⟩);rw[Bb]at qi qj ⊢;simp only[Aw,B6]at qi qj ⊢;obtain⟨s1,e1⟩:∃ s1,s1=s++[Ob.row [iV op,iV n,.str nm,SL z t [a.row,c.row]] 76 0 0,Ob.row [.str (By op),iV (A1 op)] 221 0 0]:=⟨_,rfl⟩
  have w1:WB s s1 b l:=by
   have:=Lt (Lt h (t:=76) (cs:=[iV op,iV n,.str nm,SL z t [a.row,c.row]]) (by simp only[go_sem])) (t:=221) (cs:=[.str (By op),iV (A1 op)]) rfl;rw[e1];simpa using this
  have k1:s1[s.length]?=some (.row [iV op,iV n,.str nm,SL z t [a.row,c.row]] 76 0 0):=by rw[e1,Cd (Ai _),Hh];rfl
  have m1:s1[s.length+1]?=some (.row [.str (By op),iV (A1 op)] 221 0 0):=by rw[e1,Cd (by omega),Nat.add_sub_cancel_left];rfl
  have ql:Fu op=(if(A1 op==3)=true then 4 else A1 op):=by unfold Fu;simp
  obtain⟨s2,q2,v2⟩:=Ab1 (Qs ha) (fun s l h hl=>iha s b l h hl) (Fu op) w1 (by omega);have k2:=v2.2.2.2 s.length _ _ _ _ qc.1 (by decide) k1;have m2:=v2.2.2.2 (s.length+1) _ _ _ _ qc.2 (by decide) m1;obtain⟨s3,q3,w3,v3⟩:=Gg v2 [32] (by simp;omega);have k3:=v3.2.2.2 s.length _ _ _ _ qc.1 (by decide) k2;have m3:=v3.2.2.2 (s.length+1) _ _ _ _ qc.2 (by decide) m2;obtain⟨s4,q4,w4,v4⟩:=Gg v3 (By op) (by simp;omega);have k4:=v4.2.2.2 s.length _ _ _ _ qc.1 (by decide) k3;have m4:=v4.2.2.2 (s.length+1) _ _ _ _ qc.2 (by decide) m3;obtain⟨s5,q5,w5,v5⟩:=Gg v4 [32] (by simp;omega);have k5:=v5.2.2.2 s.length _ _ _ _ qc.1 (by decide) k4;have m5:=v5.2.2.2 (s.length+1) _ _ _ _ qc.2 (by decide) m4;obtain⟨s6,q6,v6⟩:=Ab1 (Qs hc) (fun s l h hl=>ihc s b l h hl) (A1 op+1) v5 (by simp;omega);rw[e1]at q2;have b1:(op==1)=false:=by simp;omega
  have b3:(op==3)=false:=by simp;omega
  have b7:(A1 op==7)=false:=by simp;omega
  have b6:(A1 op==6)=false:=by simp;omega
  have wi:IntKind.i64.wrap (A1 op+1)=A1 op+1:=Ec (by omega)
  have qH:WB s s6 b (l++(Dh (a.op,a.txt) (Fu op)++32::(By op++32::Dh (c.op,c.txt) (A1 op+1)))):=by
   have:=I8 w1 (I8 v2 (I8 v3 (I8 v4 (I8 v5 v6))));simpa using this
  cases h3:(A1 op==3)
  all_goals
   rw[h3]at ql;simp only[if_true,if_false,Ez]at ql;rw[ql]at q2;simp only[go_sem];refine Ad qh (by simp only[go_sem]) ?_;simp only[go_sem,Int.reduceBEq,b1,b3,b7,b6,h3];refine Ad qi (by simp only[go_sem]) ?_;simp only[go_sem];refine Cg q2 ?_;simp only[go_sem];refine Cg q3 ?_;simp only[go_sem,m3];refine Cg q4 ?_;simp only[go_sem];refine Cg q5 ?_;simp only[go_sem];refine Ag (by kernel_rfl) ?_;simp only[go_sem,k5];refine Bl qj (by simp only[go_sem]) ?_;simp only[go_sem,m5,wi];refine Abz q6 (by repeat (first | exact trivial | refine⟨.inl (by rfl),?_⟩ | refine⟨by rfl,?_⟩ | refine⟨.inr ⟨by rfl,by rfl⟩,?_⟩)) (by repeat (first | exact trivial | refine⟨.inl (by rfl),?_⟩ | refine⟨by rfl,?_⟩ | refine⟨.inr ⟨by rfl,by rfl⟩,?_⟩)) ?_;simp only[go_sem];exact⟨rfl,qH⟩
def Im{vs:List V}{σ:St}{v:V}(h:vs.all Ds=true)(he:V.tup vs=v):FR (.tup vs) σ v:=he ▸ Js h
def Aqm{s0 s:St}{b:Nat}{l:List UInt8}(h:WB s0 s b l):∃ s',Sv 132 5 [.ptr b 0 0] s=some (.str l,s'):=by
 obtain⟨⟨u,hu⟩,-⟩:=h;exact A6g hu
def W7{x:Xp}(h:Cn x)(hl:x.txt.length<=10000000000000):Fn TT PT 133 [.agg x.row] (.str x.txt):=by
 have qf:=Dm x;refine Bz T133 rfl ?_
 have w0:WB [.row x.row 76 0 0,.row [.nilp,.nils] 132 0 0] [.row x.row 76 0 0,.row [.nilp,.nils] 132 0 0] 1 []:=by
  refine Amr (u:=.nils) ⟨.nilp,rfl,.inl rfl,Gk⟩ ?_;exact R5 (H5 (s:=[]) (fun _ h=>by cases h) (by rw[Bb];simp only[go_sem])) (by simp[Ob.refs,Am,V.refs])
 obtain⟨s1,q1,v1⟩:=Ax0 h _ 1 [] w0 (by simpa using hl);obtain⟨s2,qC⟩:=Aqm v1;rw[Bf]at qC;rw[Bb]at q1 qf ⊢;simp only[go_sem];refine Cg q1 ?_;simp only[go_sem];refine Nn (.spec T80 rfl rfl qC) ?_;simp only[go_sem];exact G6 rfl
def Ax1{s:Sp}(h:CnS s)(hl:(Cm s).length<=10000000000000):Fn TT PT 103 [.agg s.row] (.tup [.str (Cm s),.bool (Bn s.op)]):=by
 obtain⟨h1,h2,h3,h4,h5,-,-,-,-⟩:=h;obtain⟨op,line,nm,arg,iz,it,idx,ex,bz,bt,body,ez,et,els⟩:=s;simp only at h1 h2 h3 h4 h5 hl ⊢;rw[Pz];simp only;have hw:op=1\/op=2\/op=3\/op=4\/op=5\/op=6\/op=7\/op=8\/op=9\/op=10\/op=11\/op=12\/op=13\/op=14\/op=15:=by omega
 refine Bz T103 rfl ?_;rw[Bb];rcases hw with rfl | hw
 .have hx:=W7 (h5 (.inl rfl));simp only[Cm,if_true,Aj,Ah]at hl ⊢;have hx:=hx (by omega);rw[Bb]at hx
  cases idx with
  | nil=>
   simp only[E7,C8]at hl ⊢;have a2:Ak .add nm [32,61,32]=some (.str (nm++[32,61,32])):=An (by simp;omega) rfl;have a3:Ak .add (nm++[32,61,32]) ex.txt=some (.str (nm++32::61::32::ex.txt)):=An (by simp;omega) (by simp);simp only[go_sem,Int.reduceBEq,Int.reduceLT,↓a2];refine Ad hx (by simp only[go_sem]) ?_;simp only[go_sem,↓a3];exact Im rfl (by simp[Bn])
  | cons a r=>
   have ha:=W7 (h4 a Cx);simp only[E7,Ah,Aj]at hl ⊢;have ha:=ha (by omega);rw[Bb]at ha;have r0:r=[]:=by simpa using h2
   subst r0;have a1:Ak .add [91] a.txt=some (.str (91::a.txt)):=An (by simp;omega) rfl;have a2:Ak .add (91::a.txt) [93]=some (.str (91::(a.txt++[93]))):=An (by simp;omega) (by simp);have a3:Ak .add nm (91::(a.txt++[93]))=some (.str (nm++91::(a.txt++[93]))):=An (by simp;omega) rfl;have a4:Ak .add (nm++91::(a.txt++[93])) [32,61,32]=some (.str (nm++91::(a.txt++[93,32,61,32]))):=An (by simp;omega) (by simp);have a5:Ak .add (nm++91::(a.txt++[93,32,61,32])) ex.txt=some (.str (nm++91::(a.txt++93::32::61::32::ex.txt))):=An (by simp;omega) (by simp);simp only[Aw,B6];rw[Bb a];simp only[go_sem,Int.reduceBEq,Int.reduceLT];refine Ad ha (by simp only[go_sem]) ?_;simp only[go_sem,↓a1,↓a2,↓a3,↓a4];refine Ad hx (by simp only[go_sem]) ?_;simp only[go_sem,↓a5];exact Im rfl (by simp[Bn])
 rcases hw with rfl | hw
 .simp only[Cm,Cj,Bn]at hl ⊢;simp at hl;have hx:=W7 (h5 (by omega)) (by omega);rw[Bb]at hx;have a1:Ak .add ([105,102,32]) (ex.txt)=some (.str (105::102::32::ex.txt)):=An (by simp;try omega) (by simp);simp only[go_sem,Int.reduceBEq,Int.reduceLT];refine Ad hx (by simp only[go_sem]) ?_;simp only[go_sem,↓a1];exact Im rfl (by simp)
 rcases hw with rfl | hw
 .simp only[Cm,Cj,Bn]at hl ⊢;simp at hl;have hx:=W7 (h5 (by omega)) (by omega);rw[Bb]at hx;have a1:Ak .add ([119,104,105,108,101,32]) (ex.txt)=some (.str (119::104::105::108::101::32::ex.txt)):=An (by simp;try omega) (by simp);simp only[go_sem,Int.reduceBEq,Int.reduceLT];refine Ad hx (by simp only[go_sem]) ?_;simp only[go_sem,↓a1];exact Im rfl (by simp)
 rcases hw with rfl | hw
 .simp only[Cm,Cj,Bn]at hl ⊢;simp at hl;have a1:Ak .add ([108,111,99,107,32]) (nm)=some (.str (108::111::99::107::32::nm)):=An (by simp;try omega) (by simp);simp only[go_sem,Int.reduceBEq,Int.reduceLT,↓a1];exact Im rfl (by simp)
 rcases hw with rfl | hw
 .simp only[Cm,Cj,Bn]at hl ⊢;simp at hl;have a1:Ak .add ([114,101,97,100,32]) (nm)=some (.str (114::101::97::100::32::nm)):=An (by simp;try omega) (by simp);simp only[go_sem,Int.reduceBEq,Int.reduceLT,↓a1];exact Im rfl (by simp)
 rcases hw with rfl | hw
 .simp only[Cm,Cj,Bn]at hl ⊢;simp at hl;have a1:Ak .add ([119,114,105,116,101,32]) (nm)=some (.str (119::114::105::116::101::32::nm)):=An (by simp;try omega) (by simp);simp only[go_sem,Int.reduceBEq,Int.reduceLT,↓a1];exact Im rfl (by simp)
 rcases hw with rfl | hw
 .simp only[Cm,Cj,Bn]at hl ⊢;simp at hl;simp only[go_sem,Int.reduceBEq,Int.reduceLT];exact Im rfl (by simp)
 rcases hw with rfl | hw
 .simp only[Cm,Cj,Bn]at hl ⊢;simp at hl;simp only[go_sem,Int.reduceBEq,Int.reduceLT];exact Im rfl (by simp)
 rcases hw with rfl | hw
 .simp only[Cm,Cj,Bn]at hl ⊢;simp at hl;have a1:Ak .add ([119,97,105,116,32]) (nm)=some (.str (119::97::105::116::32::nm)):=An (by simp;try omega) (by simp);simp only[go_sem,Int.reduceBEq,Int.reduceLT,↓a1];exact Im rfl (by simp)
 rcases hw with rfl | hw
 .simp only[Cm,Cj,Bn]at hl ⊢;simp at hl;have a1:Ak .add ([110,111,116,105,102,121,32]) (nm)=some (.str (110::111::116::105::102::121::32::nm)):=An (by simp;try omega) (by simp);simp only[go_sem,Int.reduceBEq,Int.reduceLT,↓a1];exact Im rfl (by simp)
 rcases hw with rfl | hw
 .simp only[Cm,Cj,Bn]at hl ⊢;simp at hl;have a1:Ak .add ([110,111,116,105,102,121,97,108,108,32]) (nm)=some (.str (110::111::116::105::102::121::97::108::108::32::nm)):=An (by simp;try omega) (by simp);simp only[go_sem,Int.reduceBEq,Int.reduceLT,↓a1];exact Im rfl (by simp)
 rcases hw with rfl | hw
 .simp only[Cm,Cj,Bn]at hl ⊢;simp at hl;have a1:Ak .add ([115,112,97,119,110,32]) (nm)=some (.str (115::112::97::119::110::32::nm)):=An (by simp;try omega) (by simp);simp only[go_sem,Int.reduceBEq,Int.reduceLT,↓a1];exact Im rfl (by simp)
 rcases hw with rfl | hw
 .simp only[Cm,Cj,Bn]at hl ⊢;simp at hl;have a1:Ak .add ([106,111,105,110,32]) (nm)=some (.str (106::111::105::110::32::nm)):=An (by simp;try omega) (by simp);simp only[go_sem,Int.reduceBEq,Int.reduceLT,↓a1];exact Im rfl (by simp)
 rcases hw with rfl | hw
 .simp only[Cm,Cj,Bn]at hl ⊢;simp at hl;have hx:=W7 (h5 (by omega)) (by omega);rw[Bb]at hx;have a1:Ak .add ([115,101,116,32]) (nm)=some (.str (115::101::116::32::nm)):=An (by simp;try omega) (by simp);have a2:Ak .add (115::101::116::32::nm) ([32])=some (.str (115::101::116::32::(nm++[32]))):=An (by simp;try omega) (by simp);have a3:Ak .add (115::101::116::32::(nm++[32])) (ex.txt)=some (.str (115::101::116::32::(nm++32::ex.txt))):=An (by simp;try omega) (by simp);simp only[go_sem,Int.reduceBEq,Int.reduceLT];refine Ag (by kernel_rfl) ?_;simp only[go_sem,↓a1,↓a2];refine Bl hx (by simp only[go_sem]) ?_;simp only[go_sem,↓a3];exact Im rfl (by simp)
 subst hw;simp only[Cm,Cj,Bn]at hl ⊢;simp at hl;have a1:Ak .add ([103,101,116,32]) (nm)=some (.str (103::101::116::32::nm)):=An (by simp;try omega) (by simp);have a2:Ak .add (103::101::116::32::nm) ([32])=some (.str (103::101::116::32::(nm++[32]))):=An (by simp;try omega) (by simp);have a3:Ak .add (103::101::116::32::(nm++[32])) (arg)=some (.str (103::101::116::32::(nm++32::arg))):=An (by simp;try omega) (by simp);simp only[go_sem,Int.reduceBEq,Int.reduceLT,↓a1,↓a2,↓a3];exact Im rfl (by simp)
mutual
def Sp.sz:Sp->Nat
 | ⟨_,_,_,_,_,_,_,_,_,_,body,_,_,els⟩=>1+Sp.szs body+Sp.szs els
def Sp.szs:List Sp->Nat
 | []=>0
 | x::l=>x.sz+Sp.szs l
end
def Lw(s:Sp):s.sz=1+Sp.szs s.body+Sp.szs s.els:=by
 obtain⟨op,line,nm,arg,iz,it,idx,ex,bz,bt,body,ez,et,els⟩:=s;rw[Sp.sz]
def Xo:∀ {l:List Sp} {x:Sp},x∈l->x.sz<=Sp.szs l
 | y::l,x,h=>by
  rw[Sp.szs];rcases Bi.1 h with rfl | h
  .omega
  .have:=Xo h;omega
def A15(d:Nat)(h:d<=1073741823):Vv [.str [32,32],iV (d:Int)]=some (.str (D6 d)):=by
 unfold Vv;simp only;rw[if_pos (by simp;omega)];congr 2;unfold D6;rw[Rl];clear h
 induction d with
 | zero=>rfl
 | succ d ih=>
  rw[Lib.repeatL,ih,show 2*(d+1)=2+2*d by omega,<-List.replicate_append_replicate];rfl
def E4(x:Sp):x.row=[iV x.op,iV x.line,.str x.nm,.str x.arg,SL x.iz x.it (x.idx.map Xp.row),iV x.ex.op,iV x.ex.n,.str x.ex.nm,SL x.ex.z x.ex.t (x.ex.l.map Xp.row),SL x.bz x.bt (x.body.map Sp.row),SL x.ez x.et (x.els.map Sp.row)]:=by
 rw[Pz,Bb];rfl
def Wr(x:Sp):Prop:=∀ (s:St) (b:Nat) (l:List UInt8) (d:Nat),WB s s b l->l.length+(x.txt d).length<=10000000000000->d+x.sz<=1073741823->∃ s',Th TT PT 79 [.ptr b 0 0,.agg x.row,iV (d:Int)] s (.tup []) s'/\WB s s' b (l++x.txt d)
def Agy{s0 s:St}{b:Nat}{l:List UInt8}(h:WB s0 s b l)(x:Sp):WB s0 (s++[.row x.row 78 0 0]) b l:=Lt h (by
 have:=Ga x
 exact this)
def Ax2{K:List It}{Q:Env->St->Prop}{A6:V}{j4 b d:Nat}{z:Bool}{t:Nat}{L:List Sp}{s0 s:St}{l:List UInt8}(hW:∀ x∈L,Wr x)(h:WB s0 s b l)(hl:l.length+(Sp.txts (d+1) L).length<=10000000000000)(hd:d+1+Sp.szs L<=1073741823)(hn:L.length<=1000000000000000)
  (hk:∀ s',WB s0 s' b (l++Sp.txts (d+1) L)->W TT PT K [(0,.ptr b 0 0),(2,iV (d:Int)),(4,.ptr j4 0 0),(6,A6),(35,SL z t (L.map Sp.row)),(36,iV (L.length:Int)),(37,iV (L.length:Int))] s' Q) :
  W TT PT (.l [0,2,4,6,35,36,37] lp79_0::.b 0::K) [(0,.ptr b 0 0),(2,iV (d:Int)),(4,.ptr j4 0 0),(6,A6),(35,SL z t (L.map Sp.row)),(36,iV (L.length:Int)),(37,iV 0)] s Q:=by
 refine B3 (α:=Nat × St × List UInt8) (fun a=>L.length - a.1) (fun a=>[(0,.ptr b 0 0),(2,iV (d:Int)),(4,.ptr j4 0 0),(6,A6),(35,SL z t (L.map Sp.row)),(36,iV (L.length:Int)),(37,iV (a.1:Int))]) (fun a=>a.2.1) (fun a=>a.1<=L.length/\WB s0 a.2.1 b a.2.2/\a.2.2++Sp.txts (d+1) (L.drop a.1)=l++Sp.txts (d+1) L) ?_ (0,s,l) ⟨A0 _,h,rfl⟩;rintro⟨i,s1,c⟩ ⟨hi,hw,hc⟩ ih;simp only at hi hw hc ih;refine B4 (by delta lp79_0;exact rfl) ?_;have qd:=congrArg List.length hc;simp only[Aj]at qd;rcases Bu i L.length with h' | h'
 .obtain⟨x,hx,qq,hm⟩:=C3 h';rw[qq,Ml]at hc qd;rw[Aj]at qd;have qv:=Xo hm;obtain⟨s2,e2⟩:∃ s2,s2=s1++[Ob.row x.row 78 0 0]:=⟨_,rfl⟩;have w2:WB s0 s2 b c:=by rw[e2];exact Agy hw x
  have k2:s2[s1.length]?=some (.row x.row 78 0 0):=by rw[e2,Cd (Ai _),Hh];rfl
  obtain⟨s3,q3,v3⟩:=hW x hm s2 b c (d+1) (R6 w2) (by omega) (by omega);have qa:=E4 x;rw[qa]at e2 k2 q3;rw[e2]at q3 k2;simp only[go_sem,Bx h',Av,hx,qa,Bk (show d<9223372036854775807 by omega)];refine Cg q3 ?_;simp only[go_sem,Bk (show i<9223372036854775807 by omega)];exact Bg (ih (i+1,s3,c++x.txt (d+1)) (by simp;omega) ⟨by simp;omega,I8 w2 v3,by simp only;rw[Br];exact hc⟩) rfl
 .obtain rfl:i=L.length:=by omega
  rw[Ge h',show Sp.txts (d+1) []=[] by rw[Sp.txts],Cy]at hc;subst hc;simp only[go_sem,Ck h'];exact hk s1 hw
def Ax3{K:List It}{Q:Env->St->Prop}{A6:V}{b d:Nat}{z:Bool}{t:Nat}{L:List Sp}{s0 s:St}{l:List UInt8}(hW:∀ x∈L,Wr x)(h:WB s0 s b l)(hl:l.length+(Sp.txts (d+1) L).length<=10000000000000)(hd:d+1+Sp.szs L<=1073741823)(hn:L.length<=1000000000000000)
  (hk:∀ s',WB s0 s' b (l++Sp.txts (d+1) L)->W TT PT K [(0,.ptr b 0 0),(2,iV (d:Int)),(6,A6),(57,SL z t (L.map Sp.row)),(58,iV (L.length:Int)),(59,iV (L.length:Int))] s' Q) :
  W TT PT (.l [0,2,6,57,58,59] lp79_1::.b 2::K) [(0,.ptr b 0 0),(2,iV (d:Int)),(6,A6),(57,SL z t (L.map Sp.row)),(58,iV (L.length:Int)),(59,iV 0)] s Q:=by
 refine B3 (α:=Nat × St × List UInt8) (fun a=>L.length - a.1) (fun a=>[(0,.ptr b 0 0),(2,iV (d:Int)),(6,A6),(57,SL z t (L.map Sp.row)),(58,iV (L.length:Int)),(59,iV (a.1:Int))]) (fun a=>a.2.1) (fun a=>a.1<=L.length/\WB s0 a.2.1 b a.2.2/\a.2.2++Sp.txts (d+1) (L.drop a.1)=l++Sp.txts (d+1) L) ?_ (0,s,l) ⟨A0 _,h,rfl⟩;rintro⟨i,s1,c⟩ ⟨hi,hw,hc⟩ ih;simp only at hi hw hc ih;refine B4 (by delta lp79_1;exact rfl) ?_;have qd:=congrArg List.length hc;simp only[Aj]at qd;rcases Bu i L.length with h' | h'
 .obtain⟨x,hx,qq,hm⟩:=C3 h';rw[qq,Ml]at hc qd;rw[Aj]at qd;have qv:=Xo hm;obtain⟨s2,e2⟩:∃ s2,s2=s1++[Ob.row x.row 78 0 0]:=⟨_,rfl⟩;have w2:WB s0 s2 b c:=by rw[e2];exact Agy hw x
  have k2:s2[s1.length]?=some (.row x.row 78 0 0):=by rw[e2,Cd (Ai _),Hh];rfl
  obtain⟨s3,q3,v3⟩:=hW x hm s2 b c (d+1) (R6 w2) (by omega) (by omega);have qa:=E4 x;rw[qa]at e2 k2 q3;rw[e2]at q3 k2;simp only[go_sem,Bx h',Av,hx,qa,Bk (show d<9223372036854775807 by omega)];refine Cg q3 ?_;simp only[go_sem,Bk (show i<9223372036854775807 by omega)];exact Bg (ih (i+1,s3,c++x.txt (d+1)) (by simp;omega) ⟨by simp;omega,I8 w2 v3,by simp only;rw[Br];exact hc⟩) rfl
 .obtain rfl:i=L.length:=by omega
  rw[Ge h',show Sp.txts (d+1) []=[] by rw[Sp.txts],Cy]at hc;subst hc;simp only[go_sem,Ck h'];exact hk s1 hw
def Ax4{x:Sp}(h:CnS x):Wr x:=by
 induction h with
 | @mk x h1 h2 h3 h4 h5 h6 h7 h8 h9 ihb ihe=>
  intro s b l d h hl hd;have hs:CnS x:=.mk h1 h2 h3 h4 h5 h6 h7 h8 h9;rw[Lw]at hd
  have qc:s.length≠b:=by
   obtain⟨⟨u,p,hb,-⟩,-⟩:=h;have:=(Aq.1 hb).1;omega
  rw[K6]at hl ⊢;simp only[Aj,Ja]at hl;have hh:=Ax1 hs (by omega);have qk:=A15 d (by omega);have qf:=Ga x;have g0:(1073741823<(d:Int))=False:=eq_false (by omega);have qy:=Ja d;generalize hH:Cm x=H at hl hh ⊢;generalize hT:D6 d=T at hl qk qy ⊢;refine Sk T79 rfl ?_ rfl rfl (fun σ1 h=>⟨h.2.2.1,h.2.1⟩);obtain⟨s1,e1⟩:∃ s1,s1=s++[Ob.row x.row 78 0 0]:=⟨_,rfl⟩;have w1:WB s s1 b l:=by rw[e1];exact Agy h x
  have k1:s1[s.length]?=some (.row x.row 78 0 0):=by rw[e1,Cd (Ai _),Hh];rfl
  have qa:=E4 x;obtain⟨s2,q2,w2,v2⟩:=Gg w1 T (by omega);have k2:=v2.2.2.2 s.length _ _ _ _ qc (by decide) k1;obtain⟨s3,q3,w3,v3⟩:=Gg w2 H (by simp;omega);have k3:=v3.2.2.2 s.length _ _ _ _ qc (by decide) k2;rw[qa]at e1 k2 k3 hh ⊢;rw[e1]at q2;cases hb:Bn x.op
  .rw[hb]at hh hl;simp only[Ez,if_false,Ah,C8]at hl ⊢;obtain⟨s4,q4,w4,v4⟩:=Gg w3 [59,10] (by simp;omega);simp only[go_sem,g0];refine F0 P101 (by simp only[go_sem]) qk ?_;simp only[go_sem];refine Cg q2 ?_;simp only[go_sem,k2];refine Ad hh (by simp only[go_sem]) ?_;simp only[go_sem];refine Cg q3 ?_;simp only[go_sem];refine Cg q4 ?_;simp only[go_sem];exact⟨rfl,by simpa using w4⟩
  .rw[hb]at hh hl;simp only[if_true,Ah,Aj,C8]at hl ⊢;have lb:=Wp x.body (d+1);have le:=Wp x.els (d+1);have qp:(x.body.map Sp.row).length=x.body.length:=Ba ..;have qr:(x.els.map Sp.row).length=x.els.length:=Ba ..;obtain⟨s4,q4,w4,v4⟩:=Gg w3 [32,123,10] (by simp;omega);have k4:=v4.2.2.2 s.length _ _ _ _ qc (by decide) k3;simp only[go_sem,g0];refine F0 P101 (by simp only[go_sem]) qk ?_;simp only[go_sem];refine Cg q2 ?_;simp only[go_sem,k2];refine Ad hh (by simp only[go_sem]) ?_;simp only[go_sem];refine Cg q3 ?_;simp only[go_sem];refine Cg q4 ?_;simp only[go_sem,k4,qp];refine Ax2 (d:=d) (L:=x.body) (l:=l++T++H++[32,123,10]) ihb (R6 w4) (by simp;omega) (by omega) (by omega) fun s5 w5=>?_
   have k5:=w5.2.2.2 s.length _ _ _ _ qc (by decide) k4;have qF:=I8 w4 w5
   cases hels:x.els with
   | nil=>
    have e0:((0:Int)<((([]:List Sp).map Sp.row).length:Int))=False:=eq_false (by simp);rw[hels]at k5 hl;simp only[B6]at k5;obtain⟨s6,q6,w6,v6⟩:=Gg qF T (by simp;omega);obtain⟨s7,q7,w7,v7⟩:=Gg w6 [125,10] (by simp;omega);simp only[go_sem,k5,Int.reduceLT];refine Cg q6 ?_;simp only[go_sem];refine Cg q7 ?_;simp only[go_sem];exact⟨rfl,by simpa using w7⟩
   | cons y ys=>
    rw[hels]at k5 hl le hd qr ihe;have e0:((0:Int)<((ys.length+1:Nat):Int))=True:=eq_true (by omega);simp only[List.isEmpty_cons,Ez,if_false,Ah,Aj]at hl ⊢;obtain⟨s6,q6,w6,v6⟩:=Gg qF T (by simp;omega);have k6:=v6.2.2.2 s.length _ _ _ _ qc (by decide) k5;obtain⟨s7,q7,w7,v7⟩:=Gg w6 [125,32,101,108,115,101,32,123,10] (by simp;omega);have k7:=v7.2.2.2 s.length _ _ _ _ qc (by decide) k6;simp only[go_sem,k5,Ba,Ah,e0];refine Cg q6 ?_;simp only[go_sem];refine Cg q7 ?_;simp only[go_sem,k7,Ba,Ah];refine Ax3 (d:=d) (L:=y::ys) (l:=l++T++H++[32,123,10]++Sp.txts (d+1) x.body++T++[125,32,101,108,115,101,32,123,10]) ihe (R6 w7) (by simp;omega) (by omega) (by omega) fun s8 w8=>?_
    obtain⟨s9,q9,w9,v9⟩:=Gg (I8 w7 w8) T (by simp;omega);obtain⟨qP,qL,qM,qS⟩:=Gg w9 [125,10] (by simp;omega);simp only[go_sem];refine Cg q9 ?_;simp only[go_sem];refine Cg qL ?_;simp only[go_sem];exact⟨rfl,by simpa using qM⟩
def Agz:∀ (k u:Nat),(Hb k u).length<=k
 | 0,_=>by simp[Hb]
 | k+1,u=>by
  have:=Agz k (u / 10);unfold Hb
  split
  .simp
  .simp;omega
def Ut(n:Int):(Bw n).length<=21:=by
 unfold Bw
 split
 .have:=Agz 20 n.natAbs;simp;omega
 .have:=Agz 20 n.toNat
  omega
def Ax5{d:Dp}(h:CnD d)(hn:d.nm.length<=100000000000000)(ho:d.kind=5->d.on.length<=100000000000000):Fn TT PT 20 [.agg d.row] (.str (Dc d++[59,10])):=by
 obtain⟨⟨k1,k2⟩,⟨h0,h1,h2⟩,i1,i2,h3⟩:=h;obtain⟨kind,line,nm,size,init,on⟩:=d;simp only at k1 k2 h0 h1 h2 i1 i2 h3 hn ho;unfold Dp.row;simp only;have l1:=Ut size;have l2:=Ut init;have hk:kind=1\/kind=2\/kind=3\/kind=4\/kind=5\/kind=6:=by omega
 have qv:(size=0/\((0:Int)<0)=False/\True)\/(size≠0/\((0:Int)<size)=True/\Vf [iV size]=some (.str (Bw size))):=by
  by_cases hz:size=0
  .exact .inl ⟨hz,eq_false (by omega),trivial⟩
  .exact .inr ⟨hz,eq_true (by omega),by unfold Vf;exact if_pos ⟨by omega,h1⟩⟩
 have qz:(init=0/\((0:Int) != 0)=false/\True)\/(init≠0/\(init != 0)=true/\N5 [iV init,iV 10]=some (.str (Bw init))):=by
  by_cases hz:init=0
  .exact .inl ⟨hz,by decide,trivial⟩
  .exact .inr ⟨hz,by simp[hz],by unfold N5;exact if_pos ⟨i1,i2⟩⟩
 rcases hk with rfl | hk
 .rcases qv with⟨rfl,z1,z2⟩ | ⟨z0,z1,z2⟩<;>rcases qz with⟨rfl,n1,n2⟩ | ⟨n0,n1,n2⟩
  .refine Bz T20 rfl ?_;have a1:Ak .add ([118,97,114,32]) (nm)=some (.str (118::97::114::32::nm)):=An (by simp;try omega) (by simp);have a2:Ak .add (118::97::114::32::nm) ([59,10])=some (.str (118::97::114::32::(nm++[59,10]))):=An (by simp;try omega) (by simp);simp only[go_sem,Int.reduceLT,Int.reduceBEq,gt_iff_lt,z1,n1];refine Ag (by kernel_rfl) ?_;simp only[go_sem,↓a1,↓a2];simp only[go_sem,z1,n1,Int.reduceBEq,↓a1,↓a2];exact Ap rfl (by simp[Dc,Gm])
  .refine Bz T20 rfl ?_;have a1:Ak .add ([118,97,114,32]) (nm)=some (.str (118::97::114::32::nm)):=An (by simp;try omega) (by simp);have a2:Ak .add (118::97::114::32::nm) ([32,61,32])=some (.str (118::97::114::32::(nm++[32,61,32]))):=An (by simp;try omega) (by simp);have a3:Ak .add (118::97::114::32::(nm++[32,61,32])) (Bw init)=some (.str (118::97::114::32::(nm++32::61::32::Bw init))):=An (by simp;try omega) (by simp);have a4:Ak .add (118::97::114::32::(nm++32::61::32::Bw init)) ([59,10])=some (.str (118::97::114::32::(nm++32::61::32::(Bw init++[59,10])))):=An (by simp;try omega) (by simp);simp only[go_sem,Int.reduceLT,Int.reduceBEq,gt_iff_lt,z1,n1];refine Ag (by kernel_rfl) ?_;simp only[go_sem,↓a1,↓a2,↓a3,↓a4];simp only[go_sem,z1,n1,Int.reduceBEq,↓a1,↓a2,↓a3,↓a4];refine F0 P40 (by simp only[go_sem]) n2 ?_;simp only[go_sem,z1,n1,Int.reduceBEq,↓a1,↓a2,↓a3,↓a4];exact Ap rfl (by simp[Dc,Gm,n0])
  .refine Bz T20 rfl ?_;have a1:Ak .add ([118,97,114,32]) (nm)=some (.str (118::97::114::32::nm)):=An (by simp;try omega) (by simp);have a2:Ak .add (118::97::114::32::nm) ([91])=some (.str (118::97::114::32::(nm++[91]))):=An (by simp;try omega) (by simp);have c1:Ak .add (118::97::114::32::(nm++[91])) (Bw size)=some (.str (118::97::114::32::(nm++91::Bw size))):=An (by simp;try omega) (by simp);have c2:Ak .add (118::97::114::32::(nm++91::Bw size)) [93]=some (.str (118::97::114::32::(nm++91::(Bw size++[93])))):=An (by simp;try omega) (by simp);have a3:Ak .add (118::97::114::32::(nm++91::(Bw size++[93]))) ([59,10])=some (.str (118::97::114::32::(nm++91::(Bw size++[93,59,10])))):=An (by simp;try omega) (by simp);simp only[go_sem,Int.reduceLT,Int.reduceBEq,gt_iff_lt,z1,n1];refine Ag (by kernel_rfl) ?_;simp only[go_sem,↓a1,↓a2,↓c1,↓c2,↓a3];simp only[go_sem,z1,↓a1,↓a2,↓c1,↓c2,↓a3];refine F0 P39 (by simp only[go_sem]) z2 ?_;simp only[go_sem,z1,n1,Int.reduceBEq,↓a1,↓a2,↓c1,↓c2,↓a3];exact Ap rfl (by simp[Dc,Gm,z0])
  .refine Bz T20 rfl ?_;have a1:Ak .add ([118,97,114,32]) (nm)=some (.str (118::97::114::32::nm)):=An (by simp;try omega) (by simp);have a2:Ak .add (118::97::114::32::nm) ([91])=some (.str (118::97::114::32::(nm++[91]))):=An (by simp;try omega) (by simp);have c1:Ak .add (118::97::114::32::(nm++[91])) (Bw size)=some (.str (118::97::114::32::(nm++91::Bw size))):=An (by simp;try omega) (by simp);have c2:Ak .add (118::97::114::32::(nm++91::Bw size)) [93]=some (.str (118::97::114::32::(nm++91::(Bw size++[93])))):=An (by simp;try omega) (by simp);have a3:Ak .add (118::97::114::32::(nm++91::(Bw size++[93]))) ([32,61,32])=some (.str (118::97::114::32::(nm++91::(Bw size++[93,32,61,32])))):=An (by simp;try omega) (by simp);have a4:Ak .add (118::97::114::32::(nm++91::(Bw size++[93,32,61,32]))) (Bw init)=some (.str (118::97::114::32::(nm++91::(Bw size++93::32::61::32::Bw init)))):=An (by simp;try omega) (by simp);have a5:Ak .add (118::97::114::32::(nm++91::(Bw size++93::32::61::32::Bw init))) ([59,10])=some (.str (118::97::114::32::(nm++91::(Bw size++93::32::61::32::(Bw init++[59,10]))))):=An (by simp;try omega) (by simp);simp only[go_sem,Int.reduceLT,Int.reduceBEq,gt_iff_lt,z1,n1];refine Ag (by kernel_rfl) ?_;simp only[go_sem,↓a1,↓a2,↓c1,↓c2,↓a3,↓a4,↓a5];simp only[go_sem,z1,↓a1,↓a2,↓c1,↓c2,↓a3,↓a4,↓a5];refine F0 P39 (by simp only[go_sem]) z2 ?_;simp only[go_sem,z1,n1,Int.reduceBEq,↓a1,↓a2,↓c1,↓c2,↓a3,↓a4,↓a5];refine F0 P40 (by simp only[go_sem]) n2 ?_;simp only[go_sem,z1,n1,Int.reduceBEq,↓a1,↓a2,↓c1,↓c2,↓a3,↓a4,↓a5];exact Ap rfl (by simp[Dc,Gm,z0,n0])
 rcases hk with rfl | hk
 .obtain rfl:size=0:=h2 (by omega);have z1:((0:Int)<0)=False:=eq_false (by omega);rcases qz with⟨rfl,n1,n2⟩ | ⟨n0,n1,n2⟩
  .refine Bz T20 rfl ?_;have a1:Ak .add ([118,111,108,97,116,105,108,101,32]) (nm)=some (.str (118::111::108::97::116::105::108::101::32::nm)):=An (by simp;try omega) (by simp);have a2:Ak .add (118::111::108::97::116::105::108::101::32::nm) ([59,10])=some (.str (118::111::108::97::116::105::108::101::32::(nm++[59,10]))):=An (by simp;try omega) (by simp);simp only[go_sem,Int.reduceLT,Int.reduceBEq,gt_iff_lt,z1,n1];refine Ag (by kernel_rfl) ?_;simp only[go_sem,↓a1,↓a2];simp only[go_sem,z1,n1,Int.reduceBEq,↓a1,↓a2];exact Ap rfl (by simp[Dc,Gm])
  .refine Bz T20 rfl ?_;have a1:Ak .add ([118,111,108,97,116,105,108,101,32]) (nm)=some (.str (118::111::108::97::116::105::108::101::32::nm)):=An (by simp;try omega) (by simp);have a2:Ak .add (118::111::108::97::116::105::108::101::32::nm) ([32,61,32])=some (.str (118::111::108::97::116::105::108::101::32::(nm++[32,61,32]))):=An (by simp;try omega) (by simp);have a3:Ak .add (118::111::108::97::116::105::108::101::32::(nm++[32,61,32])) (Bw init)=some (.str (118::111::108::97::116::105::108::101::32::(nm++32::61::32::Bw init))):=An (by simp;try omega) (by simp);have a4:Ak .add (118::111::108::97::116::105::108::101::32::(nm++32::61::32::Bw init)) ([59,10])=some (.str (118::111::108::97::116::105::108::101::32::(nm++32::61::32::(Bw init++[59,10])))):=An (by simp;try omega) (by simp);simp only[go_sem,Int.reduceLT,Int.reduceBEq,gt_iff_lt,z1,n1];refine Ag (by kernel_rfl) ?_;simp only[go_sem,↓a1,↓a2,↓a3,↓a4];simp only[go_sem,z1,n1,Int.reduceBEq,↓a1,↓a2,↓a3,↓a4];refine F0 P40 (by simp only[go_sem]) n2 ?_;simp only[go_sem,z1,n1,Int.reduceBEq,↓a1,↓a2,↓a3,↓a4];exact Ap rfl (by simp[Dc,Gm,n0])
 rcases hk with rfl | hk
 .obtain rfl:size=0:=h2 (by omega);obtain rfl:init=0:=h3 (by omega) (by omega);have z1:((0:Int)<0)=False:=eq_false (by omega);have n1:((0:Int) != 0)=false:=by decide
  refine Bz T20 rfl ?_;have a1:Ak .add ([109,117,116,101,120,32]) (nm)=some (.str (109::117::116::101::120::32::nm)):=An (by simp;try omega) (by simp);have a2:Ak .add (109::117::116::101::120::32::nm) ([59,10])=some (.str (109::117::116::101::120::32::(nm++[59,10]))):=An (by simp;try omega) (by simp);simp only[go_sem,Int.reduceLT,Int.reduceBEq,gt_iff_lt,z1,n1];refine Ag (by kernel_rfl) ?_;simp only[go_sem,↓a1,↓a2];simp only[go_sem,z1,n1,Int.reduceBEq,↓a1,↓a2];exact Ap rfl (by simp[Dc,Gm])
 rcases hk with rfl | hk
 .obtain rfl:size=0:=h2 (by omega);obtain rfl:init=0:=h3 (by omega) (by omega);have z1:((0:Int)<0)=False:=eq_false (by omega);have n1:((0:Int) != 0)=false:=by decide
  refine Bz T20 rfl ?_;have a1:Ak .add ([114,119,108,111,99,107,32]) (nm)=some (.str (114::119::108::111::99::107::32::nm)):=An (by simp;try omega) (by simp);have a2:Ak .add (114::119::108::111::99::107::32::nm) ([59,10])=some (.str (114::119::108::111::99::107::32::(nm++[59,10]))):=An (by simp;try omega) (by simp);simp only[go_sem,Int.reduceLT,Int.reduceBEq,gt_iff_lt,z1,n1];refine Ag (by kernel_rfl) ?_;simp only[go_sem,↓a1,↓a2];simp only[go_sem,z1,n1,Int.reduceBEq,↓a1,↓a2];exact Ap rfl (by simp[Dc,Gm])
 rcases hk with rfl | hk
 .have ho:=ho rfl;obtain rfl:size=0:=h2 (by omega);obtain rfl:init=0:=h3 (by omega) (by omega);have z1:((0:Int)<0)=False:=eq_false (by omega);have n1:((0:Int) != 0)=false:=by decide
  refine Bz T20 rfl ?_;have a1:Ak .add ([99,111,110,100,32]) (nm)=some (.str (99::111::110::100::32::nm)):=An (by simp;try omega) (by simp);have a2:Ak .add (99::111::110::100::32::nm) ([32])=some (.str (99::111::110::100::32::(nm++[32]))):=An (by simp;try omega) (by simp);have a3:Ak .add (99::111::110::100::32::(nm++[32])) (on)=some (.str (99::111::110::100::32::(nm++32::on))):=An (by simp;try omega) (by simp);have a4:Ak .add (99::111::110::100::32::(nm++32::on)) ([59,10])=some (.str (99::111::110::100::32::(nm++32::(on++[59,10])))):=An (by simp;try omega) (by simp);simp only[go_sem,Int.reduceLT,Int.reduceBEq,gt_iff_lt,z1,n1];refine Ag (by kernel_rfl) ?_;simp only[go_sem,↓a1,↓a2,↓a3,↓a4];simp only[go_sem,z1,n1,Int.reduceBEq,↓a1,↓a2,↓a3,↓a4];exact Ap rfl (by simp[Dc,Gm])
 subst hk;obtain rfl:size=0:=h2 (by omega);obtain rfl:init=0:=h3 (by omega) (by omega);have z1:((0:Int)<0)=False:=eq_false (by omega);have n1:((0:Int) != 0)=false:=by decide
 refine Bz T20 rfl ?_;have a1:Ak .add ([102,117,116,117,114,101,32]) (nm)=some (.str (102::117::116::117::114::101::32::nm)):=An (by simp;try omega) (by simp);have a2:Ak .add (102::117::116::117::114::101::32::nm) ([59,10])=some (.str (102::117::116::117::114::101::32::(nm++[59,10]))):=An (by simp;try omega) (by simp);simp only[go_sem,Int.reduceLT,Int.reduceBEq,gt_iff_lt,z1,n1];refine Ag (by kernel_rfl) ?_;simp only[go_sem,↓a1,↓a2];simp only[go_sem,z1,n1,Int.reduceBEq,↓a1,↓a2];exact Ap rfl (by simp[Dc,Gm])
def Ax6{d:Dp}(h:1<=d.kind/\d.kind<=6):d.nm.length<=(Dc d).length/\(d.kind=5->d.on.length<=(Dc d).length):=by
 unfold Dc;refine⟨?_,fun h5=>?_⟩
 .repeat' split
  all_goals simp
  all_goals omega
 .rw[if_neg (by omega),if_neg (by omega),if_neg (by omega),if_neg (by omega),if_pos h5];simp;omega
def jr:List (List UInt8)->List UInt8
 | []=>[]
 | a::l=>44::32::(a++jr l)
def Af2:∀ (a:List UInt8) (l:List (List UInt8)),Ed (a::l)=a++jr l
 | a,[]=>by simp[Ed,jr]
 | a,b::l=>by rw[Ed,Af2 b l,jr]
def Ra(l:List (List UInt8))(k:Nat):List UInt8:=if k=0 then Ed l else jr (l.drop k)
def Auk(l:List (List UInt8)):l.length<=(Ed l).length+1:=by
 have:∀ l:List (List UInt8),l.length<=(jr l).length:=fun l=>by
  induction l with
  | nil=>simp
  | cons a l ih=>simp[jr];omega
 cases l with
 | nil=>simp
 | cons a l=>rw[Af2];have:=this l;simp;omega
def Ad6{α:Type}(f:α->List UInt8)(hf:∀ x,1<=(f x).length):∀ l:List α,l.length<=((l.map f).flatten).length
 | []=>by simp
 | y::l=>by
  have:=Ad6 f hf l;have:=hf y;rw[Aw,D3,Aj,Ah];omega
def Avv{K:List It}{Q:Env->St->Prop}{A C:V}{l:List (List UInt8)}{z:Bool}{u j0:Nat}{nm:List UInt8}{line:Int}{B:V}{s:St}(hs:s[j0]?=some (.row [.str nm,iV line,SL z u (l.map fun x=>[V.str x]),B] 51 0 0))(qb:List UInt8)(hl:qb.length+(Ed l).length<=100000000000000)
  (h:W TT PT K [(1,A),(3,.str (qb++Ed l)),(5,C),(6,.ptr j0 0 0),(7,iV (l.length:Int))] s Q) :
  W TT PT (.l [1,3,5,6,7] lp10_1::.b 4::K) [(1,A),(3,.str qb),(5,C),(6,.ptr j0 0 0),(7,iV 0)] s Q:=by
 have qN:=Auk l;have qs:(l.map fun x=>[V.str x]).length=l.length:=Ba ..;refine B3 (α:=Nat × List UInt8) (fun a=>l.length - a.1) (fun a=>[(1,A),(3,.str a.2),(5,C),(6,.ptr j0 0 0),(7,iV (a.1:Int))]) (fun _=>s) (fun a=>a.1<=l.length/\a.2++Ra l a.1=qb++Ed l) ?_ (0,qb) ⟨A0 _,rfl⟩;rintro⟨i,c⟩ ⟨hi,hc⟩ ih;simp only at hi hc ih;refine B4 (by delta lp10_1;exact rfl) ?_;have qd:=congrArg List.length hc;simp only[Aj]at qd;rcases Bu i l.length with h' | h'
 .obtain⟨x,hx,hd,hm⟩:=C3 h';have qm:=Bk (show i<9223372036854775807 by omega);by_cases qx:i=0
  .subst qx;have f0:((0:Int)<((0:Nat):Int))=False:=eq_false (by omega);have qG:((0:Int)<0)=False:=eq_false (by omega);have f1:((0:Int)<(l.length:Int))=True:=eq_true (by omega);have qK:l=x::l.drop 1:=by simpa using hd
   have hj:Ra l 0=x++jr (l.drop 1):=by
    unfold Ra;rw[if_pos rfl]
    conv=>lhs;rw[qK]
    exact Af2 x _
   rw[hj]at hc qd;rw[Aj]at qd;have a1:Ak .add c x=some (.str (c++x)):=An (by omega) rfl;simp only[go_sem,hs,qs,f1,f0,qG,Av,hx,↓a1,qm];refine Bg (ih (1,c++x) (by simp;omega) ⟨by simp;omega,?_⟩) rfl;simp only;rw[<-hc,Br];rfl
  .have f0:((0:Int)<(i:Int))=True:=eq_true (by omega)
   have hj:Ra l i=44::32::(x++jr (l.drop (i+1))):=by
    unfold Ra;rw[if_neg qx,hd,jr]
   rw[hj]at hc qd;simp only[Ah,Aj]at qd;have a1:Ak .add c [44,32]=some (.str (c++[44,32])):=An (by simp;omega) rfl;have a2:Ak .add (c++[44,32]) x=some (.str (c++44::32::x)):=An (by simp;omega) (by simp);simp only[go_sem,hs,qs,Bx h',f0,↓a1];simp only[go_sem,hs,Av,hx,↓a2,qm];refine Bg (ih (i+1,c++44::32::x) (by simp;omega) ⟨by simp;omega,?_⟩) rfl;simp only;rw[<-hc];unfold Ra;rw[if_neg (by omega)];simp
 .obtain rfl:i=l.length:=by omega
  have hj:Ra l l.length=[]:=by
   unfold Ra
   split
   .rename_i h0;rw[Adj h0];rfl
   .rw[Ge h'];rfl
  rw[hj,Cy]at hc;subst hc;simp only[go_sem,hs,qs,Ck h'];exact h
def Ams{p:Gp}(h:CnG p)(hl:(Fe p).length<=100000000000000):Fn TT PT 10 [.agg p.row] (.str (Fe p)):=by
 obtain⟨hD,hT⟩:=h;obtain⟨dz,dt,decls,tz,tt,thrs⟩:=p;simp only at hD hT;unfold Fe at hl ⊢;simp only at hl ⊢;unfold Gp.row;simp only;have n1:(decls.map Dp.row).length=decls.length:=Ba ..;have n2:(thrs.map Tp.row).length=thrs.length:=Ba ..;rw[Aj]at hl;have c1:=Ad6 (fun d=>Dc d++[59,10]) (fun x=>by simp) decls;have c2:=Ad6 D1 (fun x=>by simp[D1]) thrs;refine Bz T10 rfl ?_;simp only[go_sem];refine B3 (α:=Nat × List UInt8) (fun a=>decls.length - a.1) (fun a=>[(1,.ptr 0 0 0),(3,.str a.2),(4,iV (a.1:Int))]) (fun _=>[.row [SL dz dt (decls.map Dp.row),SL tz tt (thrs.map Tp.row)] 28 0 0]) (fun a=>a.1<=decls.length/\a.2++((decls.drop a.1).map fun d=>Dc d++[59,10]).flatten=(decls.map fun d=>Dc d++[59,10]).flatten) ?_ (0,[]) ⟨A0 _,rfl⟩;rintro⟨i,qb⟩ ⟨hi,hc⟩ ih;simp only at hi hc ih;refine B4 (by delta lp10_0;exact rfl) ?_;have qd:=congrArg List.length hc;simp only[Aj]at qd;rcases Bu i decls.length with h' | h'
 .obtain⟨x,hx,hd,hm⟩:=C3 h';rw[hd,Aw,D3]at hc qd;simp only[Aj,Ah,C8]at qd;obtain⟨e1,e2⟩:=Ax6 (hD x hm).kind;have hf:=Ax5 (hD x hm) (by omega) (fun h5=>by have:=e2 h5;omega);have a1:Ak .add qb (Dc x++[59,10])=some (.str (qb++(Dc x++[59,10]))):=An (by simp;omega) rfl;have qa:x.row=[iV x.kind,iV x.line,.str x.nm,iV x.size,iV x.init,.str x.on]:=rfl;rw[qa]at hf;simp only[go_sem,n1,Bx h',Av,hx,qa];refine Ad hf (by simp only[go_sem]) ?_;simp only[go_sem,↓a1,Bk (show i<9223372036854775807 by omega)];refine Bg (ih (i+1,qb++(Dc x++[59,10])) (by simp;omega) ⟨by simp;omega,?_⟩) rfl;simp only;rw[Br];exact hc
 .obtain rfl:i=decls.length:=by omega
  rw[Ge h']at hc;simp only[B6,Zl,Cy]at hc;subst hc;clear ih;simp only[go_sem,n1,Ck h'];refine B3 (α:=Nat × List UInt8 × St) (fun a=>thrs.length - a.1) (fun a=>[(1,.ptr 0 0 0),(3,.str a.2.1),(5,iV (a.1:Int))]) (fun a=>a.2.2) (fun a=>a.1<=thrs.length/\a.2.1++((thrs.drop a.1).map D1).flatten=(decls.map fun d=>Dc d++[59,10]).flatten++(thrs.map D1).flatten/\a.2.2[0]?=some (.row [SL dz dt (decls.map Dp.row),SL tz tt (thrs.map Tp.row)] 28 0 0)) ?_ (0,_,_) ⟨A0 _,rfl,rfl⟩;rintro⟨i,qb,s⟩ ⟨hi,hc,hs⟩ ih;simp only at hi hc hs ih;refine B4 (by delta lp10_2;exact rfl) ?_;have qd:=congrArg List.length hc;simp only[Aj]at qd;rcases Bu i thrs.length with h' | h'
  .obtain⟨x,hx,hd,hm⟩:=C3 h';rw[hd,Aw,D3]at hc qd;rw[Aj]at qd;have qD:=hT x hm;obtain⟨nm,line,lz,lt,locals,bz,bt,body⟩:=x;simp only at qD
   have qI:(D1 ⟨nm,line,lz,lt,locals,bz,bt,body⟩).length=nm.length+(Ed locals).length+(Sp.txts 1 body).length+14:=by
    simp[D1];omega
   have hb:=Aeq bz bt 1 body (fun q hq=>Amq (qD q hq) 1 (by have:=Wx 1 hq;omega)) (by omega) (by have:=Wp body 1;omega);obtain⟨s',qu⟩:∃ s',s'=s++[Ob.row [.str nm,iV line,SL lz lt (locals.map fun x=>[V.str x]),SL bz bt (body.map Sp.row)] 51 0 0]:=⟨_,rfl⟩;have k1:s'[s.length]?=some (.row [.str nm,iV line,SL lz lt (locals.map fun x=>[V.str x]),SL bz bt (body.map Sp.row)] 51 0 0):=by rw[qu,Cd (Ai _),Hh];rfl
   have k0:s'[0]?=some (.row [SL dz dt (decls.map Dp.row),SL tz tt (thrs.map Tp.row)] 28 0 0):=by rw[qu];exact B5 hs
   have qa:Tp.row ⟨nm,line,lz,lt,locals,bz,bt,body⟩=[.str nm,iV line,SL lz lt (locals.map fun x=>[V.str x]),SL bz bt (body.map Sp.row)]:=rfl;have a1:Ak .add qb [116,104,114,101,97,100,32]=some (.str (qb++[116,104,114,101,97,100,32])):=An (by simp;omega) rfl;have a2:Ak .add (qb++[116,104,114,101,97,100,32]) nm=some (.str (qb++116::104::114::101::97::100::32::nm)):=An (by simp;omega) (by simp);have a3:Ak .add (qb++116::104::114::101::97::100::32::nm) [40]=some (.str (qb++116::104::114::101::97::100::32::(nm++[40]))):=An (by simp;omega) (by simp);simp only[go_sem,hs,n2,Bx h',Av,hx,qa,↓a1,↓a2,↓a3];rw[<-qu];refine Avv k1 _ (by simp;omega) ?_;rw[show qb++116::104::114::101::97::100::32::(nm++[40])++Ed locals=qb++116::104::114::101::97::100::32::(nm++40::Ed locals) by simp];have a4:Ak .add (qb++116::104::114::101::97::100::32::(nm++40::Ed locals)) [41,32,123,10]=some (.str (qb++116::104::114::101::97::100::32::(nm++40::(Ed locals++[41,32,123,10])))):=An (by simp;omega) (by simp);have a5:Ak .add (qb++116::104::114::101::97::100::32::(nm++40::(Ed locals++[41,32,123,10]))) (Sp.txts 1 body)=some (.str (qb++116::104::114::101::97::100::32::(nm++40::(Ed locals++41::32::123::10::Sp.txts 1 body)))):=An (by simp;omega) (by simp);have a6:Ak .add (qb++116::104::114::101::97::100::32::(nm++40::(Ed locals++41::32::123::10::Sp.txts 1 body))) [125,10]=some (.str (qb++116::104::114::101::97::100::32::(nm++40::(Ed locals++41::32::123::10::(Sp.txts 1 body++[125,10]))))):=An (by simp;omega) (by simp);simp only[go_sem,k1,↓a4];refine Ad hb (by simp only[go_sem]) ?_;simp only[go_sem,↓a5,↓a6,Bk (show i<9223372036854775807 by omega)];refine Bg (ih (i+1,qb++D1 ⟨nm,line,lz,lt,locals,bz,bt,body⟩,s') (by simp;omega) ⟨by simp;omega,by simp only;rw[Br];exact hc,k0⟩) (by simp[D1];rfl)
  .obtain rfl:i=thrs.length:=by omega
   rw[Ge h']at hc;simp only[B6,Zl,Cy]at hc;subst hc;simp only[go_sem,hs,n2,Ck h'];exact G6 rfl
def A16(n:Int):(Gm n).length<=24:=by
 have:=Ut n;unfold Gm
 split
 .simp
 .simp only[Ah];omega
def Asp{d:Dp}(h1:d.nm.length<=12)(h2:d.on.length<=12):(Dc d).length<=80:=by
 have a1:=A16 d.init;have a2:=Ut d.size
 have a3:(if d.size=0 then [] else 91::(Bw d.size++[93])).length<=23:=by
  split
  .simp
  .simp;omega
 unfold Dc
 split
 .simp only[Aj,Ah,C8];omega
 split
 .simp only[Aj,Ah,C8];omega
 split
 .simp only[Aj,Ah,C8];omega
 split
 .simp only[Aj,Ah,C8];omega
 split
 .simp only[Aj,Ah,C8];omega
 .simp only[Aj,Ah,C8];omega
def Alg(a:List UInt8)(l:List (List UInt8)):(Ed (a::l)).length<=a.length+2+(Ed l).length:=by
 cases l with
 | nil=>simp[Ed]
 | cons b l=>simp only[Ed,Aj,Ah];omega
def Fd{v:V}(h:v.rowB=true):v.cellB=true:=by cases v<;>simp[V.rowB]at h<;>rfl
def Aeb{v:V}(h:v.cellB=true):v.cells=[v]/\[v].all V.cellB=true:=⟨by cases v<;>simp[V.cellB]at h<;>rfl,by simp only[As,Bd,h];rfl⟩
def Lc(s:List UInt8):List V:=[.str s]
def Aqn{s s':St}{m m' e e' qE n:Nat}{u w:V}{ys:List (List V)}(he:e≠e')(hu:u=.nils\/∃ i g cs,u=.sl i g 0 n m true/\s[i]?=some (.row cs e g 0))(h:GW s m' e' qE w ys)(hf:∀ j,(∀ i g,u=.sl i g 0 n m true->j≠i)->j<s.length->s'[j]?=s[j]?):GW s' m' e' qE w ys:=by
 rcases h with h | ⟨hn,j,g,rfl,ho,qJ⟩
 .exact .inl h
 .refine .inr ⟨hn,j,g,rfl,?_,qJ⟩;rw[hf j ?_ (Aq.1 ho).1]
  .exact ho
  .rintro i g' rfl rfl;rcases hu with hu | ⟨i,g2,cs,hu,hs⟩
   .cases hu
   .cases hu;rw[hs]at ho;cases ho;exact he rfl
def Aqo{s:St}{m e lo:Nat}{u:V}{xs:List (List V)}(h:GW s m e lo u xs):u=.nils\/∃ i g cs,u=.sl i g 0 xs.length m true/\s[i]?=some (.row cs e g 0):=by
 rcases h with⟨h,-⟩ | ⟨-,i,g,h,ho,-⟩
 .exact .inl h
 .exact .inr ⟨i,g,_,h,ho⟩
def R7(z:Bool)(t:Nat)(xs:List (List V)):(SL z t xs).rowB=true:=by
 unfold SL
 split<;>rfl
def Amt(x:Tp):x.row.all V.rowB=true:=by
 unfold Tp.row;simp only[As,Bd,R7];rfl
def Aai(D:List Dp):∀ r∈D.map Dp.row,r.length=6:=by intro r hr;obtain⟨x,-,rfl⟩:=De.1 hr;rfl
def Aer(D:List Dp):∀ r∈D.map Dp.row,r.all V.rowB=true:=by intro r hr;obtain⟨x,-,rfl⟩:=De.1 hr;rfl
def Rv(D:List Tp):∀ r∈D.map Tp.row,r.length=4:=by intro r hr;obtain⟨x,-,rfl⟩:=De.1 hr;rfl
def Aaj(D:List Tp):∀ r∈D.map Tp.row,r.all V.rowB=true:=by intro r hr;obtain⟨x,-,rfl⟩:=De.1 hr;exact Amt x
