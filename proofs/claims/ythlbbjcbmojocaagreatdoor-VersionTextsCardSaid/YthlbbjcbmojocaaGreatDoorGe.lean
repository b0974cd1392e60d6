/- Walks: the program's texts of expressions, written into a Builder. -/
import Derived.Test.YthlbbjcbmojocaaGreatDoorPa
set_option linter.all false
namespace Go.Proofs.YthlbbjcbmojocaaGreatDoor.KM
open Go
def WB(s0 s:St)(b:Nat)(l:List UInt8):Prop:=(∃ u,BL s b u l)/\Cl s/\s0.length<=s.length/\∀ (j:Nat) (cs:List V) (e g z:Nat),j≠b->e≠5->s0[j]?=some (.row cs e g z)->s[j]?=some (.row cs e g z)
def Akx{s:St}{b:Nat}{u:V}{l:List UInt8}(h:BL s b u l)(hc:Cl s):WB s s b l:=⟨⟨u,h⟩,hc,Ah _,fun _ _ _ _ _ _ _ h=>h⟩
def Ij{s0 s1 s2:St}{b:Nat}{l l':List UInt8}(h1:WB s0 s1 b l)(h2:WB s1 s2 b l'):WB s0 s2 b l':=
 ⟨h2.1,h2.2.1,Cv h1.2.2.1 h2.2.2.1,fun j cs e g z hj he h=>h2.2.2.2 j cs e g z hj he (h1.2.2.2 j cs e g z hj he h)⟩
def K3{s0 s:St}{b:Nat}{l:List UInt8}{cs:List V}{t:Nat}(h:WB s0 s b l)(hr:cs.all V.rowB=true):WB s0 (s++[.row cs t 0 0]) b l:=by
 obtain⟨⟨u,h1⟩,h2,h3,h4⟩:=h;refine⟨⟨u,Azm h1⟩,Hk h2 hr,by simp;omega,fun j cs e g z hj he h=>Bx (h4 j cs e g z hj he h)⟩
def Qz{s0 s:St}{b:Nat}{l:List UInt8}(h:WB s0 s b l):WB s s b l:=⟨h.1,h.2.1,Ah _,fun _ _ _ _ _ _ _ h=>h⟩
def F6{s0 s:St}{b:Nat}{l:List UInt8}(h:WB s0 s b l)(t:List UInt8)(hb:l.length+t.length<=100000000000000):∃ s',Th TT PT 105 [.ptr b 0 0,.str t] s (.tup [iV (t.length:Int),.nili]) s'/\WB s0 s' b (l++t)/\WB s s' b (l++t):=by
 obtain⟨⟨u,h1⟩,h2,h3,h4⟩:=h;obtain⟨s',u',q1,q2,q3,q4,q5⟩:=Avp t h1 h2 hb
 have hw:WB s s' b (l++t):=by
  refine⟨⟨u',q2⟩,q3,q4,fun j cs e g z hj he hs=>?_⟩;rw[q5 j hj ?_ (Ap.1 hs).1]
  .exact hs
  .intro hm;obtain⟨p,-,-,hg⟩:=h1;rcases hg with⟨rfl,-⟩ | ⟨-,i,g',rfl,ho,-⟩
   .simp[V.refs]at hm
   .simp[V.refs]at hm;subst hm;rw[ho]at hs;simp at hs;exact he hs.2.1.symm
 exact⟨s',q1,Ij ⟨⟨u,h1⟩,h2,h3,h4⟩ hw,hw⟩
def Re{T:Nat->Option AF}{pr:Nat->Option (List V->Option V)}{f p:Nat}{res:List AR}{body:AC}{vs:List V}{v:V}{σ:St}{R:St->Prop}(hT:T f=some ⟨p,res,true,body,none⟩)(hl:vs.length=p)
  (h:W T pr [.c body] (C6 0 vs) σ (Hd fun e' σ1=>Cd e' σ1 res=some v/\R σ1)) (hr:v.refs=[]) (ho:Ch v=true) (hR:∀ σ1,R σ1->σ.length<=σ1.length/\Cl σ1):∃ σ',Th T pr f vs σ v σ'/\R σ':=by
 obtain⟨e',σ1,hE,qt,h1⟩:=h;obtain⟨h2,h3⟩:=hR σ1 h1;exact⟨σ1,Afa hT hl ⟨e',σ1,hE,qt,rfl⟩ hr ho h2 h3,h1⟩
def Yw{x a:Xp}{i:Nat}(h:x.l[i]?=some a)(hi:i<2):Fn TT PT 170 [.agg x.row,iV (i:Int)] (.agg a.row):=by
 have qy:=(Ap.1 h).1;rw[A0 x];have qf:=Df a;have hn:(x.l.map Xp.row).length=x.l.length:=Ba ..;have g1:((x.l.length:Int)<=(i:Int))=False:=eq_false (by omega);refine Bn T170 rfl ?_;rw[A0 a]at qf ⊢;have qa:a.row=[iV a.op,iV a.n,.str a.nm,SL a.z a.t (a.l.map Xp.row)]:=A0 a;simp only[go_sem,hn,g1,Aq,h,qa];exact E7 qf
def Aan{x:Xp}(ho:1<=x.op/\x.op<=18){s0 s:St}{b:Nat}{l:List UInt8}(hx:∀ (s:St) (l:List UInt8),WB s s b l->l.length+x.txt.length<=10000000000000->∃ s',Th TT PT 158 [.ptr b 0 0,.agg x.row] s (.tup []) s'/\WB s s' b (l++x.txt))(qe:Int)(h:WB s0 s b l)(hl:l.length+(Dr (x.op,x.txt) qe).length<=10000000000000):
  ∃ s',Th TT PT 169 [.ptr b 0 0,.agg x.row,iV qe] s (.tup []) s'/\WB s s' b (l++Dr (x.op,x.txt) qe):=by
 have qh:=Uc ho;have qf:=Df x;have qo:=Qz h;refine Re T169 rfl ?_ rfl rfl (fun σ1 h=>⟨h.2.2.1,h.2.1⟩);rw[A0]at hx qf ⊢;have qa:([iV x.op,iV x.n,.str x.nm,SL x.z x.t (x.l.map Xp.row)]).all V.rowB=true:=qf;obtain⟨s1,e1⟩:∃ s1,s1=s++[Ob.row [iV x.op,iV x.n,.str x.nm,SL x.z x.t (x.l.map Xp.row)] 66 0 0]:=⟨_,rfl⟩;have w1:WB s s1 b l:=by rw[e1];exact K3 qo qa
 have k1:s1[s.length]?=some (.row [iV x.op,iV x.n,.str x.nm,SL x.z x.t (x.l.map Xp.row)] 66 0 0):=by rw[e1,Cj (Ah _),Gc];rfl
 have qc:s.length≠b:=by
  obtain⟨⟨u,p,hb,-⟩,-⟩:=h;have:=(Ap.1 hb).1;omega
 unfold Dr at hl ⊢;by_cases qA:Bo x.op<qe
 .have f:(qe<=Bo x.op)=False:=eq_false (by omega);rw[if_pos qA]at hl ⊢;simp only[Ak,Aj,C0]at hl;obtain⟨s2,q2,w2,v2⟩:=F6 w1 [40] (by simp;omega);obtain⟨s3,q3,v3⟩:=hx s2 (l++[40]) (Qz w2) (by simp;omega);obtain⟨s4,q4,w4,v4⟩:=F6 (Ij w2 v3) [41] (by simp;omega);have k2:=v2.2.2.2 s.length _ _ _ _ qc (by decide) k1;simp only[go_sem];refine Ad qh (by simp only[go_sem]) ?_;simp only[go_sem,f];rw[e1]at q2;refine Ca q2 ?_;simp only[go_sem,k2];refine Ca q3 ?_;simp only[go_sem];refine Ca q4 ?_;simp only[go_sem];exact⟨rfl,by have:=w4;simpa using this⟩
 .have f:(qe<=Bo x.op)=True:=eq_true (by omega);rw[if_neg qA]at hl ⊢;obtain⟨s3,q3,v3⟩:=hx s1 l (Qz w1) (by simp only at hl;omega);rw[e1]at q3;simp only[go_sem];refine Ad qh (by simp only[go_sem]) ?_;simp only[go_sem,f];refine Ca q3 ?_;simp only[go_sem];exact⟨rfl,Ij w1 v3⟩
def Avq{x:Xp}(h:Cn x):∀ (s:St) (b:Nat) (l:List UInt8),WB s s b l->l.length+x.txt.length<=10000000000000->∃ s',Th TT PT 158 [.ptr b 0 0,.agg x.row] s (.tup []) s'/\WB s s' b (l++x.txt):=by
 induction h with
 | @num n nm z t hn=>
  intro s b l h hl;rw[Ez]at hl ⊢;simp only[By,Dv,if_true]at hl ⊢
  have qc:s.length≠b:=by
   obtain⟨⟨u,p,hb,-⟩,-⟩:=h;have:=(Ap.1 hb).1;omega
  have qh:=Uc (op:=1) (by omega);have hf:M8 [iV n,iV 10]=some (.str (Ct n)):=by unfold M8;exact if_pos hn
  refine Re T158 rfl ?_ rfl rfl (fun σ1 h=>⟨h.2.2.1,h.2.1⟩);rw[A0];obtain⟨s1,e1⟩:∃ s1,s1=s++[Ob.row [iV 1,iV n,.str nm,SL z t []] 66 0 0,Ob.row [.str (Ci 1),iV (Bo 1)] 220 0 0]:=⟨_,rfl⟩
  have w1:WB s s1 b l:=by
   have:=K3 (K3 h (t:=66) (cs:=[iV 1,iV n,.str nm,SL z t []]) (by simp only[go_sem])) (t:=220) (cs:=[.str (Ci 1),iV (Bo 1)]) rfl;rw[e1];simpa using this
  obtain⟨s2,q2,w2,v2⟩:=F6 w1 (Ct n) (by omega);rw[e1]at q2;simp only[By];simp only[go_sem];refine Ad qh (by simp only[go_sem]) ?_;simp only[go_sem,Int.reduceBEq];refine Ft P35 (by simp only[go_sem]) hf ?_;simp only[go_sem];refine Ca q2 ?_;simp only[go_sem];exact⟨rfl,w2⟩
 | @name n nm z t=>
  intro s b l h hl;rw[Ez]at hl ⊢;simp only[By,Dv,show((2:Int)=1)=False from eq_false (by omega),if_false,if_true]at hl ⊢
  have qc:s.length≠b:=by
   obtain⟨⟨u,p,hb,-⟩,-⟩:=h;have:=(Ap.1 hb).1;omega
  have qh:=Uc (op:=2) (by omega);refine Re T158 rfl ?_ rfl rfl (fun σ1 h=>⟨h.2.2.1,h.2.1⟩);rw[A0];obtain⟨s1,e1⟩:∃ s1,s1=s++[Ob.row [iV 2,iV n,.str nm,SL z t []] 66 0 0,Ob.row [.str (Ci 2),iV (Bo 2)] 220 0 0]:=⟨_,rfl⟩
  have w1:WB s s1 b l:=by
   have:=K3 (K3 h (t:=66) (cs:=[iV 2,iV n,.str nm,SL z t []]) (by simp only[go_sem])) (t:=220) (cs:=[.str (Ci 2),iV (Bo 2)]) rfl;rw[e1];simpa using this
  obtain⟨s2,q2,w2,v2⟩:=F6 w1 nm (by omega);rw[e1]at q2;simp only[By];have lv:(Bo 2==7)=true:=by decide
  simp only[go_sem];refine Ad qh (by simp only[go_sem]) ?_;simp only[go_sem,Int.reduceBEq,lv];refine Ca q2 ?_;simp only[go_sem];exact⟨rfl,w2⟩
 | @idx n nm z t a ha ih=>
  intro s b l h hl;rw[Ez]at hl ⊢;simp only[Bb,By,Dv,show((3:Int)=1)=False from eq_false (by omega),show((3:Int)=2)=False from eq_false (by omega),if_false,if_true]at hl ⊢;have hl:l.length+nm.length+a.txt.length+2<=10000000000000:=by simp at hl;omega
  have qc:s.length≠b:=by
   obtain⟨⟨u,p,hb,-⟩,-⟩:=h;have:=(Ap.1 hb).1;omega
  have qh:=Uc (op:=3) (by omega);have qg:=Yw (x:=⟨3,n,nm,z,t,[a]⟩) (a:=a) (i:=0) rfl (by omega);refine Re T158 rfl ?_ rfl rfl (fun σ1 h=>⟨h.2.2.1,h.2.1⟩);rw[A0]at qg ⊢;simp only[Bb,By]at qg ⊢;obtain⟨s1,e1⟩:∃ s1,s1=s++[Ob.row [iV 3,iV n,.str nm,SL z t [a.row]] 66 0 0,Ob.row [.str (Ci 3),iV (Bo 3)] 220 0 0]:=⟨_,rfl⟩
  have w1:WB s s1 b l:=by
   have:=K3 (K3 h (t:=66) (cs:=[iV 3,iV n,.str nm,SL z t [a.row]]) (by simp only[go_sem])) (t:=220) (cs:=[.str (Ci 3),iV (Bo 3)]) rfl;rw[e1];simpa using this
  have k1:s1[s.length]?=some (.row [iV 3,iV n,.str nm,SL z t [a.row]] 66 0 0):=by rw[e1,Cj (Ah _),Gc];rfl
  obtain⟨s2,q2,w2,v2⟩:=F6 w1 nm (by omega);obtain⟨s3,q3,w3,v3⟩:=F6 w2 [91] (by simp;omega);have k3:=(Ij v2 v3).2.2.2 s.length _ _ _ _ qc (by decide) k1
  have ql:Dr (a.op,a.txt) 1=a.txt:=by
   unfold Dr;have:=(Aam (Pf ha)).2.1;exact if_neg (by simp only;omega)
  obtain⟨s4,q4,v4⟩:=Aan (Pf ha) (fun s l h hl=>ih s b l h hl) 1 w3 (by rw[ql];simp;omega);rw[ql]at v4;obtain⟨s5,q5,w5,v5⟩:=F6 (Ij w3 v4) [93] (by simp;omega);rw[e1]at q2;have qw:=Df a;simp only[go_sem];refine Ad qh (by simp only[go_sem]) ?_;simp only[go_sem,Int.reduceBEq];refine Ca q2 ?_;simp only[go_sem];refine Ca q3 ?_;simp only[go_sem,k3];refine Ad qg (by simp only[go_sem]) ?_;simp only[go_sem];refine Ca q4 ?_;simp only[go_sem];refine Ca q5 ?_;simp only[go_sem];exact⟨rfl,by have:=w5;simpa using this⟩
 | @un op n nm z t a qn ha ih=>
  intro s b l h hl;have ho:1<=op/\op<=18:=by omega
  have qB:Bo op=6:=by rcases qn with rfl | rfl<;>rfl
  rw[Ez]at hl ⊢
  have e0:Dv op n nm [(a.op,a.txt)]=Ci op++Dr (a.op,a.txt) 6:=by
   unfold Dv;rw[if_neg (by omega),if_neg (by omega)];simp only;rw[if_neg (by omega)]
  simp only[Bb,By,e0,Aj]at hl ⊢;obtain⟨p1,p2⟩:=Lu (a.op,a.txt) 6;simp only at p1
  have qc:s.length≠b:=by
   obtain⟨⟨u,p,hb,-⟩,-⟩:=h;have:=(Ap.1 hb).1;omega
  have qh:=Uc ho;rw[qB]at qh;have qg:=Yw (x:=⟨op,n,nm,z,t,[a]⟩) (a:=a) (i:=0) rfl (by omega);refine Re T158 rfl ?_ rfl rfl (fun σ1 h=>⟨h.2.2.1,h.2.1⟩);rw[A0]at qg ⊢;simp only[Bb,By]at qg ⊢;obtain⟨s1,e1⟩:∃ s1,s1=s++[Ob.row [iV op,iV n,.str nm,SL z t [a.row]] 66 0 0,Ob.row [.str (Ci op),iV 6] 220 0 0]:=⟨_,rfl⟩
  have w1:WB s s1 b l:=by
   have:=K3 (K3 h (t:=66) (cs:=[iV op,iV n,.str nm,SL z t [a.row]]) (by simp only[go_sem])) (t:=220) (cs:=[.str (Ci op),iV 6]) rfl;rw[e1];simpa using this
  have k1:s1[s.length]?=some (.row [iV op,iV n,.str nm,SL z t [a.row]] 66 0 0):=by rw[e1,Cj (Ah _),Gc];rfl
  obtain⟨s2,q2,w2,v2⟩:=F6 w1 (Ci op) (by omega);have k2:=v2.2.2.2 s.length _ _ _ _ qc (by decide) k1;obtain⟨s3,q3,v3⟩:=Aan (Pf ha) (fun s l h hl=>ih s b l h hl) 6 w2 (by simp;omega);rw[e1]at q2;have b1:(op==1)=false:=by simp;omega
  have b3:(op==3)=false:=by simp;omega
  simp only[go_sem];refine Ad qh (by simp only[go_sem]) ?_;simp only[go_sem,Int.reduceBEq,b1,b3];refine Ca q2 ?_;simp only[go_sem,k2];refine Ad qg (by simp only[go_sem]) ?_;simp only[go_sem];refine Ca q3 ?_;simp only[go_sem];exact⟨rfl,by have:=Ij w2 v3;simpa using this⟩
 | @bin op n nm z t a c qn ha hc iha ihc=>
  intro s b l h hl;have ho:1<=op/\op<=18:=by omega
  obtain⟨qO,qQ,qR⟩:=Aam ho
  have qB:Bo op<6:=by
   obtain⟨i,hi,rfl⟩:=Wy ho;have:((List.range 18).all fun i=>decide (5<=i->Bo ((i:Int)+1)<6))=true:=by decide
   exact of_decide_eq_true (Bi.1 this i (E5.2 hi)) (by omega)
  rw[Ez]at hl ⊢
  have e0:Dv op n nm [(a.op,a.txt),(c.op,c.txt)]=Dr (a.op,a.txt) (Gq op)++32::(Ci op++32::Dr (c.op,c.txt) (Bo op+1)):=by
   unfold Dv;rw[if_neg (by omega),if_neg (by omega)]
  simp only[Bb,By,e0,Aj,Ak]at hl ⊢
  have qc:s.length≠b/\s.length+1≠b:=by
   obtain⟨⟨u,p,hb,-⟩,-⟩:=h;have:=(Ap.1 hb).1;omega
  have qh:=Uc ho;have qi:=Yw (x:=⟨op,n,nm,z,t,[a,c]⟩) (a:=a) (i:=0) rfl (by omega);have qj:=Yw (x:=⟨op,n,nm,z,t,[a,c]⟩) (a:=c) (i:=1) rfl (by omega);refine Re T158 rfl ?_ rfl rfl (fun σ1 h=>⟨h.2.2.1,h.2.1⟩);rw[A0]at qi qj ⊢;simp only[Bb,By]at qi qj ⊢;obtain⟨s1,e1⟩:∃ s1,s1=s++[Ob.row [iV op,iV n,.str nm,SL z t [a.row,c.row]] 66 0 0,Ob.row [.str (Ci op),iV (Bo op)] 220 0 0]:=⟨_,rfl⟩
  have w1:WB s s1 b l:=by
   have:=K3 (K3 h (t:=66) (cs:=[iV op,iV n,.str nm,SL z t [a.row,c.row]]) (by simp only[go_sem])) (t:=220) (cs:=[.str (Ci op),iV (Bo op)]) rfl;rw[e1];simpa using this
  have k1:s1[s.length]?=some (.row [iV op,iV n,.str nm,SL z t [a.row,c.row]] 66 0 0):=by rw[e1,Cj (Ah _),Gc];rfl
  have m1:s1[s.length+1]?=some (.row [.str (Ci op),iV (Bo op)] 220 0 0):=by rw[e1,Cj (by omega),Nat.add_sub_cancel_left];rfl
  have ql:Gq op=(if(Bo op==3)=true then 4 else Bo op):=by unfold Gq;simp
  obtain⟨s2,q2,v2⟩:=Aan (Pf ha) (fun s l h hl=>iha s b l h hl) (Gq op) w1 (by omega);have k2:=v2.2.2.2 s.length _ _ _ _ qc.1 (by decide) k1;have m2:=v2.2.2.2 (s.length+1) _ _ _ _ qc.2 (by decide) m1;obtain⟨s3,q3,w3,v3⟩:=F6 v2 [32] (by simp;omega);have k3:=v3.2.2.2 s.length _ _ _ _ qc.1 (by decide) k2;have m3:=v3.2.2.2 (s.length+1) _ _ _ _ qc.2 (by decide) m2;obtain⟨s4,q4,w4,v4⟩:=F6 v3 (Ci op) (by simp;omega);have k4:=v4.2.2.2 s.length _ _ _ _ qc.1 (by decide) k3;have m4:=v4.2.2.2 (s.length+1) _ _ _ _ qc.2 (by decide) m3;obtain⟨s5,q5,w5,v5⟩:=F6 v4 [32] (by simp;omega);have k5:=v5.2.2.2 s.length _ _ _ _ qc.1 (by decide) k4;have m5:=v5.2.2.2 (s.length+1) _ _ _ _ qc.2 (by decide) m4;obtain⟨s6,q6,v6⟩:=Aan (Pf hc) (fun s l h hl=>ihc s b l h hl) (Bo op+1) v5 (by simp;omega);rw[e1]at q2;have b1:(op==1)=false:=by simp;omega
  have b3:(op==3)=false:=by simp;omega
  have b7:(Bo op==7)=false:=by simp;omega
  have b6:(Bo op==6)=false:=by simp;omega
  have wi:IntKind.i64.wrap (Bo op+1)=Bo op+1:=C7 (by omega)
  have qH:WB s s6 b (l++(Dr (a.op,a.txt) (Gq op)++32::(Ci op++32::Dr (c.op,c.txt) (Bo op+1)))):=by
   have:=Ij w1 (Ij v2 (Ij v3 (Ij v4 (Ij v5 v6))));simpa using this
  cases h3:(Bo op==3)
  all_goals
   rw[h3]at ql;simp only[if_true,if_false,Fb]at ql;rw[ql]at q2;simp only[go_sem];refine Ad qh (by simp only[go_sem]) ?_;simp only[go_sem,Int.reduceBEq,b1,b3,b7,b6,h3];refine Ad qi (by simp only[go_sem]) ?_;simp only[go_sem];refine Ca q2 ?_;simp only[go_sem];refine Ca q3 ?_;simp only[go_sem,m3];refine Ca q4 ?_;simp only[go_sem];refine Ca q5 ?_;simp only[go_sem];refine Ag (by kernel_rfl) ?_;simp only[go_sem,k5];refine A1 qj (by simp only[go_sem]) ?_;simp only[go_sem,m5,wi];refine Aal q6 (by repeat (first | exact trivial | refine⟨.inl (by rfl),?_⟩ | refine⟨by rfl,?_⟩ | refine⟨.inr ⟨by rfl,by rfl⟩,?_⟩)) (by repeat (first | exact trivial | refine⟨.inl (by rfl),?_⟩ | refine⟨by rfl,?_⟩ | refine⟨.inr ⟨by rfl,by rfl⟩,?_⟩)) ?_;simp only[go_sem];exact⟨rfl,qH⟩
def H0{vs:List V}{σ:St}{v:V}(h:vs.all Dg=true)(he:V.tup vs=v):FR (.tup vs) σ v:=he ▸ I4 h
def Aoe{s0 s:St}{b:Nat}{l:List UInt8}(h:WB s0 s b l):∃ s',Rl 131 5 [.ptr b 0 0] s=some (.str l,s'):=by
 obtain⟨⟨u,hu⟩,-⟩:=h;exact A3q hu
def Vx{x:Xp}(h:Cn x)(hl:x.txt.length<=10000000000000):Fn TT PT 136 [.agg x.row] (.str x.txt):=by
 have qf:=Df x;refine Bn T136 rfl ?_
 have w0:WB [.row x.row 66 0 0,.row [.nilp,.nils] 131 0 0] [.row x.row 66 0 0,.row [.nilp,.nils] 131 0 0] 1 []:=by
  refine Akx (u:=.nils) ⟨.nilp,rfl,.inl rfl,F9⟩ ?_;exact Qy (Hk (s:=[]) (fun _ h=>by cases h) (by rw[A0];simp only[go_sem])) (by simp[Ob.refs,Al,V.refs])
 obtain⟨s1,q1,v1⟩:=Avq h _ 1 [] w0 (by simpa using hl);obtain⟨s2,qC⟩:=Aoe v1;rw[Fd]at qC;rw[A0]at q1 qf ⊢;simp only[go_sem];refine Ca q1 ?_;simp only[go_sem];refine Ms (.spec T83 rfl rfl qC) ?_;simp only[go_sem];exact E7 rfl
def Avr{s:Sp}(h:CnS s)(hl:(Ck s).length<=10000000000000):Fn TT PT 106 [.agg s.row] (.tup [.str (Ck s),.bool (Bu s.op)]):=by
 obtain⟨h1,h2,h3,h4,h5,-,-,-,-⟩:=h;obtain⟨op,line,nm,arg,iz,it,idx,ex,bz,bt,body,ez,et,els⟩:=s;simp only at h1 h2 h3 h4 h5 hl ⊢;rw[Ox];simp only;have hw:op=1\/op=2\/op=3\/op=4\/op=5\/op=6\/op=7\/op=8\/op=9\/op=10\/op=11\/op=12\/op=13\/op=14\/op=15:=by omega
 refine Bn T106 rfl ?_;rw[A0];rcases hw with rfl | hw
 .have hx:=Vx (h5 (.inl rfl));simp only[Ck,if_true,Aj,Ak]at hl ⊢;have hx:=hx (by omega);rw[A0]at hx
  cases idx with
  | nil=>
   simp only[Fa,C0]at hl ⊢;have a2:Ai .add nm [32,61,32]=some (.str (nm++[32,61,32])):=Am (by simp;omega) rfl;have a3:Ai .add (nm++[32,61,32]) ex.txt=some (.str (nm++32::61::32::ex.txt)):=Am (by simp;omega) (by simp);simp only[go_sem,Int.reduceBEq,Int.reduceLT,↓a2];refine Ad hx (by simp only[go_sem]) ?_;simp only[go_sem,↓a3];exact H0 rfl (by simp[Bu])
  | cons a r=>
   have ha:=Vx (h4 a Dy);simp only[Fa,Ak,Aj]at hl ⊢;have ha:=ha (by omega);rw[A0]at ha;have r0:r=[]:=by simpa using h2
   subst r0;have a1:Ai .add [91] a.txt=some (.str (91::a.txt)):=Am (by simp;omega) rfl;have a2:Ai .add (91::a.txt) [93]=some (.str (91::(a.txt++[93]))):=Am (by simp;omega) (by simp);have a3:Ai .add nm (91::(a.txt++[93]))=some (.str (nm++91::(a.txt++[93]))):=Am (by simp;omega) rfl;have a4:Ai .add (nm++91::(a.txt++[93])) [32,61,32]=some (.str (nm++91::(a.txt++[93,32,61,32]))):=Am (by simp;omega) (by simp);have a5:Ai .add (nm++91::(a.txt++[93,32,61,32])) ex.txt=some (.str (nm++91::(a.txt++93::32::61::32::ex.txt))):=Am (by simp;omega) (by simp);simp only[Bb,By];rw[A0 a];simp only[go_sem,Int.reduceBEq,Int.reduceLT];refine Ad ha (by simp only[go_sem]) ?_;simp only[go_sem,↓a1,↓a2,↓a3,↓a4];refine Ad hx (by simp only[go_sem]) ?_;simp only[go_sem,↓a5];exact H0 rfl (by simp[Bu])
 rcases hw with rfl | hw
 .simp only[Ck,Cy,Bu]at hl ⊢;simp at hl;have hx:=Vx (h5 (by omega)) (by omega);rw[A0]at hx;have a1:Ai .add ([105,102,32]) (ex.txt)=some (.str (105::102::32::ex.txt)):=Am (by simp;try omega) (by simp);simp only[go_sem,Int.reduceBEq,Int.reduceLT];refine Ad hx (by simp only[go_sem]) ?_;simp only[go_sem,↓a1];exact H0 rfl (by simp)
 rcases hw with rfl | hw
 .simp only[Ck,Cy,Bu]at hl ⊢;simp at hl;have hx:=Vx (h5 (by omega)) (by omega);rw[A0]at hx;have a1:Ai .add ([119,104,105,108,101,32]) (ex.txt)=some (.str (119::104::105::108::101::32::ex.txt)):=Am (by simp;try omega) (by simp);simp only[go_sem,Int.reduceBEq,Int.reduceLT];refine Ad hx (by simp only[go_sem]) ?_;simp only[go_sem,↓a1];exact H0 rfl (by simp)
 rcases hw with rfl | hw
 .simp only[Ck,Cy,Bu]at hl ⊢;simp at hl;have a1:Ai .add ([108,111,99,107,32]) (nm)=some (.str (108::111::99::107::32::nm)):=Am (by simp;try omega) (by simp);simp only[go_sem,Int.reduceBEq,Int.reduceLT,↓a1];exact H0 rfl (by simp)
 rcases hw with rfl | hw
 .simp only[Ck,Cy,Bu]at hl ⊢;simp at hl;have a1:Ai .add ([114,101,97,100,32]) (nm)=some (.str (114::101::97::100::32::nm)):=Am (by simp;try omega) (by simp);simp only[go_sem,Int.reduceBEq,Int.reduceLT,↓a1];exact H0 rfl (by simp)
 rcases hw with rfl | hw
 .simp only[Ck,Cy,Bu]at hl ⊢;simp at hl;have a1:Ai .add ([119,114,105,116,101,32]) (nm)=some (.str (119::114::105::116::101::32::nm)):=Am (by simp;try omega) (by simp);simp only[go_sem,Int.reduceBEq,Int.reduceLT,↓a1];exact H0 rfl (by simp)
 rcases hw with rfl | hw
 .simp only[Ck,Cy,Bu]at hl ⊢;simp at hl;simp only[go_sem,Int.reduceBEq,Int.reduceLT];exact H0 rfl (by simp)
 rcases hw with rfl | hw
 .simp only[Ck,Cy,Bu]at hl ⊢;simp at hl;simp only[go_sem,Int.reduceBEq,Int.reduceLT];exact H0 rfl (by simp)
 rcases hw with rfl | hw
 .simp only[Ck,Cy,Bu]at hl ⊢;simp at hl;have a1:Ai .add ([119,97,105,116,32]) (nm)=some (.str (119::97::105::116::32::nm)):=Am (by simp;try omega) (by simp);simp only[go_sem,Int.reduceBEq,Int.reduceLT,↓a1];exact H0 rfl (by simp)
 rcases hw with rfl | hw
 .simp only[Ck,Cy,Bu]at hl ⊢;simp at hl;have a1:Ai .add ([110,111,116,105,102,121,32]) (nm)=some (.str (110::111::116::105::102::121::32::nm)):=Am (by simp;try omega) (by simp);simp only[go_sem,Int.reduceBEq,Int.reduceLT,↓a1];exact H0 rfl (by simp)
 rcases hw with rfl | hw
 .simp only[Ck,Cy,Bu]at hl ⊢;simp at hl;have a1:Ai .add ([110,111,116,105,102,121,97,108,108,32]) (nm)=some (.str (110::111::116::105::102::121::97::108::108::32::nm)):=Am (by simp;try omega) (by simp);simp only[go_sem,Int.reduceBEq,Int.reduceLT,↓a1];exact H0 rfl (by simp)
 rcases hw with rfl | hw
 .simp only[Ck,Cy,Bu]at hl ⊢;simp at hl;have a1:Ai .add ([115,112,97,119,110,32]) (nm)=some (.str (115::112::97::119::110::32::nm)):=Am (by simp;try omega) (by simp);simp only[go_sem,Int.reduceBEq,Int.reduceLT,↓a1];exact H0 rfl (by simp)
 rcases hw with rfl | hw
 .simp only[Ck,Cy,Bu]at hl ⊢;simp at hl;have a1:Ai .add ([106,111,105,110,32]) (nm)=some (.str (106::111::105::110::32::nm)):=Am (by simp;try omega) (by simp);simp only[go_sem,Int.reduceBEq,Int.reduceLT,↓a1];exact H0 rfl (by simp)
 rcases hw with rfl | hw
 .simp only[Ck,Cy,Bu]at hl ⊢;simp at hl;have hx:=Vx (h5 (by omega)) (by omega);rw[A0]at hx;have a1:Ai .add ([115,101,116,32]) (nm)=some (.str (115::101::116::32::nm)):=Am (by simp;try omega) (by simp);have a2:Ai .add (115::101::116::32::nm) ([32])=some (.str (115::101::116::32::(nm++[32]))):=Am (by simp;try omega) (by simp);have a3:Ai .add (115::101::116::32::(nm++[32])) (ex.txt)=some (.str (115::101::116::32::(nm++32::ex.txt))):=Am (by simp;try omega) (by simp);simp only[go_sem,Int.reduceBEq,Int.reduceLT];refine Ag (by kernel_rfl) ?_;simp only[go_sem,↓a1,↓a2];refine A1 hx (by simp only[go_sem]) ?_;simp only[go_sem,↓a3];exact H0 rfl (by simp)
 subst hw;simp only[Ck,Cy,Bu]at hl ⊢;simp at hl;have a1:Ai .add ([103,101,116,32]) (nm)=some (.str (103::101::116::32::nm)):=Am (by simp;try omega) (by simp);have a2:Ai .add (103::101::116::32::nm) ([32])=some (.str (103::101::116::32::(nm++[32]))):=Am (by simp;try omega) (by simp);have a3:Ai .add (103::101::116::32::(nm++[32])) (arg)=some (.str (103::101::116::32::(nm++32::arg))):=Am (by simp;try omega) (by simp);simp only[go_sem,Int.reduceBEq,Int.reduceLT,↓a1,↓a2,↓a3];exact H0 rfl (by simp)
mutual
def Sp.sz:Sp->Nat
 | ⟨_,_,_,_,_,_,_,_,_,_,body,_,_,els⟩=>1+Sp.szs body+Sp.szs els
def Sp.szs:List Sp->Nat
 | []=>0
 | x::l=>x.sz+Sp.szs l
end
def K6(s:Sp):s.sz=1+Sp.szs s.body+Sp.szs s.els:=by
 obtain⟨op,line,nm,arg,iz,it,idx,ex,bz,bt,body,ez,et,els⟩:=s;rw[Sp.sz]
def Wh:∀ {l:List Sp} {x:Sp},x∈l->x.sz<=Sp.szs l
 | y::l,x,h=>by
  rw[Sp.szs];rcases Bj.1 h with rfl | h
  .omega
  .have:=Wh h;omega
def Azn(d:Nat)(h:d<=1073741823):Up [.str [32,32],iV (d:Int)]=some (.str (D6 d)):=by
 unfold Up;simp only;rw[if_pos (by simp;omega)];congr 2;unfold D6;rw[P8];clear h
 induction d with
 | zero=>rfl
 | succ d ih=>
  rw[Lib.repeatL,ih,show 2*(d+1)=2+2*d by omega,<-List.replicate_append_replicate];rfl
def Es(x:Sp):x.row=[iV x.op,iV x.line,.str x.nm,.str x.arg,SL x.iz x.it (x.idx.map Xp.row),iV x.ex.op,iV x.ex.n,.str x.ex.nm,SL x.ex.z x.ex.t (x.ex.l.map Xp.row),SL x.bz x.bt (x.body.map Sp.row),SL x.ez x.et (x.els.map Sp.row)]:=by
 rw[Ox,A0];rfl
def Wr(x:Sp):Prop:=∀ (s:St) (b:Nat) (l:List UInt8) (d:Nat),WB s s b l->l.length+(x.txt d).length<=10000000000000->d+x.sz<=1073741823->∃ s',Th TT PT 82 [.ptr b 0 0,.agg x.row,iV (d:Int)] s (.tup []) s'/\WB s s' b (l++x.txt d)
def Afe{s0 s:St}{b:Nat}{l:List UInt8}(h:WB s0 s b l)(x:Sp):WB s0 (s++[.row x.row 68 0 0]) b l:=K3 h (by
 have:=F2 x
 exact this)
def Avs{K:List It}{Q:Env->St->Prop}{A6:V}{j4 b d:Nat}{z:Bool}{t:Nat}{L:List Sp}{s0 s:St}{l:List UInt8}(hW:∀ x∈L,Wr x)(h:WB s0 s b l)(hl:l.length+(Sp.txts (d+1) L).length<=10000000000000)(hd:d+1+Sp.szs L<=1073741823)(hn:L.length<=1000000000000000)
  (hk:∀ s',WB s0 s' b (l++Sp.txts (d+1) L)->W TT PT K [(0,.ptr b 0 0),(2,iV (d:Int)),(4,.ptr j4 0 0),(6,A6),(35,SL z t (L.map Sp.row)),(36,iV (L.length:Int)),(37,iV (L.length:Int))] s' Q) :
  W TT PT (.l [0,2,4,6,35,36,37] lp82_0::.b 0::K) [(0,.ptr b 0 0),(2,iV (d:Int)),(4,.ptr j4 0 0),(6,A6),(35,SL z t (L.map Sp.row)),(36,iV (L.length:Int)),(37,iV 0)] s Q:=by
 refine Bv (α:=Nat × St × List UInt8) (fun a=>L.length - a.1) (fun a=>[(0,.ptr b 0 0),(2,iV (d:Int)),(4,.ptr j4 0 0),(6,A6),(35,SL z t (L.map Sp.row)),(36,iV (L.length:Int)),(37,iV (a.1:Int))]) (fun a=>a.2.1) (fun a=>a.1<=L.length/\WB s0 a.2.1 b a.2.2/\a.2.2++Sp.txts (d+1) (L.drop a.1)=l++Sp.txts (d+1) L) ?_ (0,s,l) ⟨Ay _,h,rfl⟩;rintro⟨i,s1,c⟩ ⟨hi,hw,hc⟩ ih;simp only at hi hw hc ih;refine Bw (by delta lp82_0;exact rfl) ?_;have qd:=congrArg List.length hc;simp only[Aj]at qd;rcases Br i L.length with h' | h'
 .obtain⟨x,hx,qq,hm⟩:=Cw h';rw[qq,Lo]at hc qd;rw[Aj]at qd;have qv:=Wh hm;obtain⟨s2,e2⟩:∃ s2,s2=s1++[Ob.row x.row 68 0 0]:=⟨_,rfl⟩;have w2:WB s0 s2 b c:=by rw[e2];exact Afe hw x
  have k2:s2[s1.length]?=some (.row x.row 68 0 0):=by rw[e2,Cj (Ah _),Gc];rfl
  obtain⟨s3,q3,v3⟩:=hW x hm s2 b c (d+1) (Qz w2) (by omega) (by omega);have qa:=Es x;rw[qa]at e2 k2 q3;rw[e2]at q3 k2;simp only[go_sem,Bp h',Aq,hx,qa,Bf (show d<9223372036854775807 by omega)];refine Ca q3 ?_;simp only[go_sem,Bf (show i<9223372036854775807 by omega)];exact Bd (ih (i+1,s3,c++x.txt (d+1)) (by simp;omega) ⟨by simp;omega,Ij w2 v3,by simp only;rw[D9];exact hc⟩) rfl
 .obtain rfl:i=L.length:=by omega
  rw[F4 h',show Sp.txts (d+1) []=[] by rw[Sp.txts],Cm]at hc;subst hc;simp only[go_sem,Ce h'];exact hk s1 hw
def Avt{K:List It}{Q:Env->St->Prop}{A6:V}{b d:Nat}{z:Bool}{t:Nat}{L:List Sp}{s0 s:St}{l:List UInt8}(hW:∀ x∈L,Wr x)(h:WB s0 s b l)(hl:l.length+(Sp.txts (d+1) L).length<=10000000000000)(hd:d+1+Sp.szs L<=1073741823)(hn:L.length<=1000000000000000)
  (hk:∀ s',WB s0 s' b (l++Sp.txts (d+1) L)->W TT PT K [(0,.ptr b 0 0),(2,iV (d:Int)),(6,A6),(57,SL z t (L.map Sp.row)),(58,iV (L.length:Int)),(59,iV (L.length:Int))] s' Q) :
  W TT PT (.l [0,2,6,57,58,59] lp82_1::.b 2::K) [(0,.ptr b 0 0),(2,iV (d:Int)),(6,A6),(57,SL z t (L.map Sp.row)),(58,iV (L.length:Int)),(59,iV 0)] s Q:=by
 refine Bv (α:=Nat × St × List UInt8) (fun a=>L.length - a.1) (fun a=>[(0,.ptr b 0 0),(2,iV (d:Int)),(6,A6),(57,SL z t (L.map Sp.row)),(58,iV (L.length:Int)),(59,iV (a.1:Int))]) (fun a=>a.2.1) (fun a=>a.1<=L.length/\WB s0 a.2.1 b a.2.2/\a.2.2++Sp.txts (d+1) (L.drop a.1)=l++Sp.txts (d+1) L) ?_ (0,s,l) ⟨Ay _,h,rfl⟩;rintro⟨i,s1,c⟩ ⟨hi,hw,hc⟩ ih;simp only at hi hw hc ih;refine Bw (by delta lp82_1;exact rfl) ?_;have qd:=congrArg List.length hc;simp only[Aj]at qd;rcases Br i L.length with h' | h'
 .obtain⟨x,hx,qq,hm⟩:=Cw h';rw[qq,Lo]at hc qd;rw[Aj]at qd;have qv:=Wh hm;obtain⟨s2,e2⟩:∃ s2,s2=s1++[Ob.row x.row 68 0 0]:=⟨_,rfl⟩;have w2:WB s0 s2 b c:=by rw[e2];exact Afe hw x
  have k2:s2[s1.length]?=some (.row x.row 68 0 0):=by rw[e2,Cj (Ah _),Gc];rfl
  obtain⟨s3,q3,v3⟩:=hW x hm s2 b c (d+1) (Qz w2) (by omega) (by omega);have qa:=Es x;rw[qa]at e2 k2 q3;rw[e2]at q3 k2;simp only[go_sem,Bp h',Aq,hx,qa,Bf (show d<9223372036854775807 by omega)];refine Ca q3 ?_;simp only[go_sem,Bf (show i<9223372036854775807 by omega)];exact Bd (ih (i+1,s3,c++x.txt (d+1)) (by simp;omega) ⟨by simp;omega,Ij w2 v3,by simp only;rw[D9];exact hc⟩) rfl
 .obtain rfl:i=L.length:=by omega
  rw[F4 h',show Sp.txts (d+1) []=[] by rw[Sp.txts],Cm]at hc;subst hc;simp only[go_sem,Ce h'];exact hk s1 hw
def Avu{x:Sp}(h:CnS x):Wr x:=by
 induction h with
 | @mk x h1 h2 h3 h4 h5 h6 h7 h8 h9 ihb ihe=>
  intro s b l d h hl hd;have hs:CnS x:=.mk h1 h2 h3 h4 h5 h6 h7 h8 h9;rw[K6]at hd
  have qc:s.length≠b:=by
   obtain⟨⟨u,p,hb,-⟩,-⟩:=h;have:=(Ap.1 hb).1;omega
  rw[Jq]at hl ⊢;simp only[Aj,Im]at hl;have hh:=Avr hs (by omega);have qk:=Azn d (by omega);have qf:=F2 x;have g0:(1073741823<(d:Int))=False:=eq_false (by omega);have qy:=Im d;generalize hH:Ck x=H at hl hh ⊢;generalize hT:D6 d=T at hl qk qy ⊢;refine Re T82 rfl ?_ rfl rfl (fun σ1 h=>⟨h.2.2.1,h.2.1⟩);obtain⟨s1,e1⟩:∃ s1,s1=s++[Ob.row x.row 68 0 0]:=⟨_,rfl⟩;have w1:WB s s1 b l:=by rw[e1];exact Afe h x
  have k1:s1[s.length]?=some (.row x.row 68 0 0):=by rw[e1,Cj (Ah _),Gc];rfl
  have qa:=Es x;obtain⟨s2,q2,w2,v2⟩:=F6 w1 T (by omega);have k2:=v2.2.2.2 s.length _ _ _ _ qc (by decide) k1;obtain⟨s3,q3,w3,v3⟩:=F6 w2 H (by simp;omega);have k3:=v3.2.2.2 s.length _ _ _ _ qc (by decide) k2;rw[qa]at e1 k2 k3 hh ⊢;rw[e1]at q2;cases hb:Bu x.op
  .rw[hb]at hh hl;simp only[Fb,if_false,Ak,C0]at hl ⊢;obtain⟨s4,q4,w4,v4⟩:=F6 w3 [59,10] (by simp;omega);simp only[go_sem,g0];refine Ft P104 (by simp only[go_sem]) qk ?_;simp only[go_sem];refine Ca q2 ?_;simp only[go_sem,k2];refine Ad hh (by simp only[go_sem]) ?_;simp only[go_sem];refine Ca q3 ?_;simp only[go_sem];refine Ca q4 ?_;simp only[go_sem];exact⟨rfl,by simpa using w4⟩
  .rw[hb]at hh hl;simp only[if_true,Ak,Aj,C0]at hl ⊢;have lb:=Vg x.body (d+1);have le:=Vg x.els (d+1);have qp:(x.body.map Sp.row).length=x.body.length:=Ba ..;have qr:(x.els.map Sp.row).length=x.els.length:=Ba ..;obtain⟨s4,q4,w4,v4⟩:=F6 w3 [32,123,10] (by simp;omega);have k4:=v4.2.2.2 s.length _ _ _ _ qc (by decide) k3;simp only[go_sem,g0];refine Ft P104 (by simp only[go_sem]) qk ?_;simp only[go_sem];refine Ca q2 ?_;simp only[go_sem,k2];refine Ad hh (by simp only[go_sem]) ?_;simp only[go_sem];refine Ca q3 ?_;simp only[go_sem];refine Ca q4 ?_;simp only[go_sem,k4,qp];refine Avs (d:=d) (L:=x.body) (l:=l++T++H++[32,123,10]) ihb (Qz w4) (by simp;omega) (by omega) (by omega) fun s5 w5=>?_
   have k5:=w5.2.2.2 s.length _ _ _ _ qc (by decide) k4;have qF:=Ij w4 w5
   cases hels:x.els with
   | nil=>
    have e0:((0:Int)<((([]:List Sp).map Sp.row).length:Int))=False:=eq_false (by simp);rw[hels]at k5 hl;simp only[By]at k5;obtain⟨s6,q6,w6,v6⟩:=F6 qF T (by simp;omega);obtain⟨s7,q7,w7,v7⟩:=F6 w6 [125,10] (by simp;omega);simp only[go_sem,k5,Int.reduceLT];refine Ca q6 ?_;simp only[go_sem];refine Ca q7 ?_;simp only[go_sem];exact⟨rfl,by simpa using w7⟩
   | cons y ys=>
    rw[hels]at k5 hl le hd qr ihe;have e0:((0:Int)<((ys.length+1:Nat):Int))=True:=eq_true (by omega);simp only[List.isEmpty_cons,Fb,if_false,Ak,Aj]at hl ⊢;obtain⟨s6,q6,w6,v6⟩:=F6 qF T (by simp;omega);have k6:=v6.2.2.2 s.length _ _ _ _ qc (by decide) k5;obtain⟨s7,q7,w7,v7⟩:=F6 w6 [125,32,101,108,115,101,32,123,10] (by simp;omega);have k7:=v7.2.2.2 s.length _ _ _ _ qc (by decide) k6;simp only[go_sem,k5,Ba,Ak,e0];refine Ca q6 ?_;simp only[go_sem];refine Ca q7 ?_;simp only[go_sem,k7,Ba,Ak];refine Avt (d:=d) (L:=y::ys) (l:=l++T++H++[32,123,10]++Sp.txts (d+1) x.body++T++[125,32,101,108,115,101,32,123,10]) ihe (Qz w7) (by simp;omega) (by omega) (by omega) fun s8 w8=>?_
    obtain⟨s9,q9,w9,v9⟩:=F6 (Ij w7 w8) T (by simp;omega);obtain⟨qP,qL,qM,qS⟩:=F6 w9 [125,10] (by simp;omega);simp only[go_sem];refine Ca q9 ?_;simp only[go_sem];refine Ca qL ?_;simp only[go_sem];exact⟨rfl,by simpa using qM⟩
def Aff:∀ (k u:Nat),(Md k u).length<=k
 | 0,_=>by simp[Md]
 | k+1,u=>by
  have:=Aff k (u / 10);unfold Md
  split
  .simp
  .simp;omega
def Td(n:Int):(Ct n).length<=21:=by
 unfold Ct
 split
 .have:=Aff 20 n.natAbs;simp;omega
 .have:=Aff 20 n.toNat
  omega
def Avv{d:Dp}(h:CnD d)(hn:d.nm.length<=100000000000000)(ho:d.kind=5->d.on.length<=100000000000000):Fn TT PT 19 [.agg d.row] (.str (E1 d++[59,10])):=by
 obtain⟨⟨k1,k2⟩,⟨h0,h1,h2⟩,i1,i2,h3⟩:=h;obtain⟨kind,line,nm,size,init,on⟩:=d;simp only at k1 k2 h0 h1 h2 i1 i2 h3 hn ho;unfold Dp.row;simp only;have l1:=Td size;have l2:=Td init;have hk:kind=1\/kind=2\/kind=3\/kind=4\/kind=5\/kind=6:=by omega
 have qv:(size=0/\((0:Int)<0)=False/\True)\/(size≠0/\((0:Int)<size)=True/\Ub [iV size]=some (.str (Ct size))):=by
  by_cases hz:size=0
  .exact .inl ⟨hz,eq_false (by omega),trivial⟩
  .exact .inr ⟨hz,eq_true (by omega),by unfold Ub;exact if_pos ⟨by omega,h1⟩⟩
 have qz:(init=0/\((0:Int) != 0)=false/\True)\/(init≠0/\(init != 0)=true/\M8 [iV init,iV 10]=some (.str (Ct init))):=by
  by_cases hz:init=0
  .exact .inl ⟨hz,by decide,trivial⟩
  .exact .inr ⟨hz,by simp[hz],by unfold M8;exact if_pos ⟨i1,i2⟩⟩
 rcases hk with rfl | hk
 .rcases qv with⟨rfl,z1,z2⟩ | ⟨z0,z1,z2⟩<;>rcases qz with⟨rfl,n1,n2⟩ | ⟨n0,n1,n2⟩
  .refine Bn T19 rfl ?_;have a1:Ai .add ([118,97,114,32]) (nm)=some (.str (118::97::114::32::nm)):=Am (by simp;try omega) (by simp);have a2:Ai .add (118::97::114::32::nm) ([59,10])=some (.str (118::97::114::32::(nm++[59,10]))):=Am (by simp;try omega) (by simp);simp only[go_sem,Int.reduceLT,Int.reduceBEq,gt_iff_lt,z1,n1];refine Ag (by kernel_rfl) ?_;simp only[go_sem,↓a1,↓a2];simp only[go_sem,z1,n1,Int.reduceBEq,↓a1,↓a2];exact Ao rfl (by simp[E1,Jc])
  .refine Bn T19 rfl ?_;have a1:Ai .add ([118,97,114,32]) (nm)=some (.str (118::97::114::32::nm)):=Am (by simp;try omega) (by simp);have a2:Ai .add (118::97::114::32::nm) ([32,61,32])=some (.str (118::97::114::32::(nm++[32,61,32]))):=Am (by simp;try omega) (by simp);have a3:Ai .add (118::97::114::32::(nm++[32,61,32])) (Ct init)=some (.str (118::97::114::32::(nm++32::61::32::Ct init))):=Am (by simp;try omega) (by simp);have a4:Ai .add (118::97::114::32::(nm++32::61::32::Ct init)) ([59,10])=some (.str (118::97::114::32::(nm++32::61::32::(Ct init++[59,10])))):=Am (by simp;try omega) (by simp);simp only[go_sem,Int.reduceLT,Int.reduceBEq,gt_iff_lt,z1,n1];refine Ag (by kernel_rfl) ?_;simp only[go_sem,↓a1,↓a2,↓a3,↓a4];simp only[go_sem,z1,n1,Int.reduceBEq,↓a1,↓a2,↓a3,↓a4];refine Ft P35 (by simp only[go_sem]) n2 ?_;simp only[go_sem,z1,n1,Int.reduceBEq,↓a1,↓a2,↓a3,↓a4];exact Ao rfl (by simp[E1,Jc,n0])
  .refine Bn T19 rfl ?_;have a1:Ai .add ([118,97,114,32]) (nm)=some (.str (118::97::114::32::nm)):=Am (by simp;try omega) (by simp);have a2:Ai .add (118::97::114::32::nm) ([91])=some (.str (118::97::114::32::(nm++[91]))):=Am (by simp;try omega) (by simp);have c1:Ai .add (118::97::114::32::(nm++[91])) (Ct size)=some (.str (118::97::114::32::(nm++91::Ct size))):=Am (by simp;try omega) (by simp);have c2:Ai .add (118::97::114::32::(nm++91::Ct size)) [93]=some (.str (118::97::114::32::(nm++91::(Ct size++[93])))):=Am (by simp;try omega) (by simp);have a3:Ai .add (118::97::114::32::(nm++91::(Ct size++[93]))) ([59,10])=some (.str (118::97::114::32::(nm++91::(Ct size++[93,59,10])))):=Am (by simp;try omega) (by simp);simp only[go_sem,Int.reduceLT,Int.reduceBEq,gt_iff_lt,z1,n1];refine Ag (by kernel_rfl) ?_;simp only[go_sem,↓a1,↓a2,↓c1,↓c2,↓a3];simp only[go_sem,z1,↓a1,↓a2,↓c1,↓c2,↓a3];refine Ft P34 (by simp only[go_sem]) z2 ?_;simp only[go_sem,z1,n1,Int.reduceBEq,↓a1,↓a2,↓c1,↓c2,↓a3];exact Ao rfl (by simp[E1,Jc,z0])
  .refine Bn T19 rfl ?_;have a1:Ai .add ([118,97,114,32]) (nm)=some (.str (118::97::114::32::nm)):=Am (by simp;try omega) (by simp);have a2:Ai .add (118::97::114::32::nm) ([91])=some (.str (118::97::114::32::(nm++[91]))):=Am (by simp;try omega) (by simp);have c1:Ai .add (118::97::114::32::(nm++[91])) (Ct size)=some (.str (118::97::114::32::(nm++91::Ct size))):=Am (by simp;try omega) (by simp);have c2:Ai .add (118::97::114::32::(nm++91::Ct size)) [93]=some (.str (118::97::114::32::(nm++91::(Ct size++[93])))):=Am (by simp;try omega) (by simp);have a3:Ai .add (118::97::114::32::(nm++91::(Ct size++[93]))) ([32,61,32])=some (.str (118::97::114::32::(nm++91::(Ct size++[93,32,61,32])))):=Am (by simp;try omega) (by simp);have a4:Ai .add (118::97::114::32::(nm++91::(Ct size++[93,32,61,32]))) (Ct init)=some (.str (118::97::114::32::(nm++91::(Ct size++93::32::61::32::Ct init)))):=Am (by simp;try omega) (by simp);have a5:Ai .add (118::97::114::32::(nm++91::(Ct size++93::32::61::32::Ct init))) ([59,10])=some (.str (118::97::114::32::(nm++91::(Ct size++93::32::61::32::(Ct init++[59,10]))))):=Am (by simp;try omega) (by simp);simp only[go_sem,Int.reduceLT,Int.reduceBEq,gt_iff_lt,z1,n1];refine Ag (by kernel_rfl) ?_;simp only[go_sem,↓a1,↓a2,↓c1,↓c2,↓a3,↓a4,↓a5];simp only[go_sem,z1,↓a1,↓a2,↓c1,↓c2,↓a3,↓a4,↓a5];refine Ft P34 (by simp only[go_sem]) z2 ?_;simp only[go_sem,z1,n1,Int.reduceBEq,↓a1,↓a2,↓c1,↓c2,↓a3,↓a4,↓a5];refine Ft P35 (by simp only[go_sem]) n2 ?_;simp only[go_sem,z1,n1,Int.reduceBEq,↓a1,↓a2,↓c1,↓c2,↓a3,↓a4,↓a5];exact Ao rfl (by simp[E1,Jc,z0,n0])
 rcases hk with rfl | hk
 .obtain rfl:size=0:=h2 (by omega);have z1:((0:Int)<0)=False:=eq_false (by omega);rcases qz with⟨rfl,n1,n2⟩ | ⟨n0,n1,n2⟩
  .refine Bn T19 rfl ?_;have a1:Ai .add ([118,111,108,97,116,105,108,101,32]) (nm)=some (.str (118::111::108::97::116::105::108::101::32::nm)):=Am (by simp;try omega) (by simp);have a2:Ai .add (118::111::108::97::116::105::108::101::32::nm) ([59,10])=some (.str (118::111::108::97::116::105::108::101::32::(nm++[59,10]))):=Am (by simp;try omega) (by simp);simp only[go_sem,Int.reduceLT,Int.reduceBEq,gt_iff_lt,z1,n1];refine Ag (by kernel_rfl) ?_;simp only[go_sem,↓a1,↓a2];simp only[go_sem,z1,n1,Int.reduceBEq,↓a1,↓a2];exact Ao rfl (by simp[E1,Jc])
  .refine Bn T19 rfl ?_;have a1:Ai .add ([118,111,108,97,116,105,108,101,32]) (nm)=some (.str (118::111::108::97::116::105::108::101::32::nm)):=Am (by simp;try omega) (by simp);have a2:Ai .add (118::111::108::97::116::105::108::101::32::nm) ([32,61,32])=some (.str (118::111::108::97::116::105::108::101::32::(nm++[32,61,32]))):=Am (by simp;try omega) (by simp);have a3:Ai .add (118::111::108::97::116::105::108::101::32::(nm++[32,61,32])) (Ct init)=some (.str (118::111::108::97::116::105::108::101::32::(nm++32::61::32::Ct init))):=Am (by simp;try omega) (by simp);have a4:Ai .add (118::111::108::97::116::105::108::101::32::(nm++32::61::32::Ct init)) ([59,10])=some (.str (118::111::108::97::116::105::108::101::32::(nm++32::61::32::(Ct init++[59,10])))):=Am (by simp;try omega) (by simp);simp only[go_sem,Int.reduceLT,Int.reduceBEq,gt_iff_lt,z1,n1];refine Ag (by kernel_rfl) ?_;simp only[go_sem,↓a1,↓a2,↓a3,↓a4];simp only[go_sem,z1,n1,Int.reduceBEq,↓a1,↓a2,↓a3,↓a4];refine Ft P35 (by simp only[go_sem]) n2 ?_;simp only[go_sem,z1,n1,Int.reduceBEq,↓a1,↓a2,↓a3,↓a4];exact Ao rfl (by simp[E1,Jc,n0])
 rcases hk with rfl | hk
 .obtain rfl:size=0:=h2 (by omega);obtain rfl:init=0:=h3 (by omega) (by omega);have z1:((0:Int)<0)=False:=eq_false (by omega);have n1:((0:Int) != 0)=false:=by decide
  refine Bn T19 rfl ?_;have a1:Ai .add ([109,117,116,101,120,32]) (nm)=some (.str (109::117::116::101::120::32::nm)):=Am (by simp;try omega) (by simp);have a2:Ai .add (109::117::116::101::120::32::nm) ([59,10])=some (.str (109::117::116::101::120::32::(nm++[59,10]))):=Am (by simp;try omega) (by simp);simp only[go_sem,Int.reduceLT,Int.reduceBEq,gt_iff_lt,z1,n1];refine Ag (by kernel_rfl) ?_;simp only[go_sem,↓a1,↓a2];simp only[go_sem,z1,n1,Int.reduceBEq,↓a1,↓a2];exact Ao rfl (by simp[E1,Jc])
 rcases hk with rfl | hk
 .obtain rfl:size=0:=h2 (by omega);obtain rfl:init=0:=h3 (by omega) (by omega);have z1:((0:Int)<0)=False:=eq_false (by omega);have n1:((0:Int) != 0)=false:=by decide
  refine Bn T19 rfl ?_;have a1:Ai .add ([114,119,108,111,99,107,32]) (nm)=some (.str (114::119::108::111::99::107::32::nm)):=Am (by simp;try omega) (by simp);have a2:Ai .add (114::119::108::111::99::107::32::nm) ([59,10])=some (.str (114::119::108::111::99::107::32::(nm++[59,10]))):=Am (by simp;try omega) (by simp);simp only[go_sem,Int.reduceLT,Int.reduceBEq,gt_iff_lt,z1,n1];refine Ag (by kernel_rfl) ?_;simp only[go_sem,↓a1,↓a2];simp only[go_sem,z1,n1,Int.reduceBEq,↓a1,↓a2];exact Ao rfl (by simp[E1,Jc])
 rcases hk with rfl | hk
 .have ho:=ho rfl;obtain rfl:size=0:=h2 (by omega);obtain rfl:init=0:=h3 (by omega) (by omega);have z1:((0:Int)<0)=False:=eq_false (by omega);have n1:((0:Int) != 0)=false:=by decide
  refine Bn T19 rfl ?_;have a1:Ai .add ([99,111,110,100,32]) (nm)=some (.str (99::111::110::100::32::nm)):=Am (by simp;try omega) (by simp);have a2:Ai .add (99::111::110::100::32::nm) ([32])=some (.str (99::111::110::100::32::(nm++[32]))):=Am (by simp;try omega) (by simp);have a3:Ai .add (99::111::110::100::32::(nm++[32])) (on)=some (.str (99::111::110::100::32::(nm++32::on))):=Am (by simp;try omega) (by simp);have a4:Ai .add (99::111::110::100::32::(nm++32::on)) ([59,10])=some (.str (99::111::110::100::32::(nm++32::(on++[59,10])))):=Am (by simp;try omega) (by simp);simp only[go_sem,Int.reduceLT,Int.reduceBEq,gt_iff_lt,z1,n1];refine Ag (by kernel_rfl) ?_;simp only[go_sem,↓a1,↓a2,↓a3,↓a4];simp only[go_sem,z1,n1,Int.reduceBEq,↓a1,↓a2,↓a3,↓a4];exact Ao rfl (by simp[E1,Jc])
 subst hk;obtain rfl:size=0:=h2 (by omega);obtain rfl:init=0:=h3 (by omega) (by omega);have z1:((0:Int)<0)=False:=eq_false (by omega);have n1:((0:Int) != 0)=false:=by decide
 refine Bn T19 rfl ?_;have a1:Ai .add ([102,117,116,117,114,101,32]) (nm)=some (.str (102::117::116::117::114::101::32::nm)):=Am (by simp;try omega) (by simp);have a2:Ai .add (102::117::116::117::114::101::32::nm) ([59,10])=some (.str (102::117::116::117::114::101::32::(nm++[59,10]))):=Am (by simp;try omega) (by simp);simp only[go_sem,Int.reduceLT,Int.reduceBEq,gt_iff_lt,z1,n1];refine Ag (by kernel_rfl) ?_;simp only[go_sem,↓a1,↓a2];simp only[go_sem,z1,n1,Int.reduceBEq,↓a1,↓a2];exact Ao rfl (by simp[E1,Jc])
def Avw{d:Dp}(h:1<=d.kind/\d.kind<=6):d.nm.length<=(E1 d).length/\(d.kind=5->d.on.length<=(E1 d).length):=by
 unfold E1;refine⟨?_,fun h5=>?_⟩
 .repeat' split
  all_goals simp
  all_goals omega
 .rw[if_neg (by omega),if_neg (by omega),if_neg (by omega),if_neg (by omega),if_pos h5];simp;omega
def jr:List (List UInt8)->List UInt8
 | []=>[]
 | a::l=>44::32::(a++jr l)
def Aep:∀ (a:List UInt8) (l:List (List UInt8)),Eo (a::l)=a++jr l
 | a,[]=>by simp[Eo,jr]
 | a,b::l=>by rw[Eo,Aep b l,jr]
def Pv(l:List (List UInt8))(k:Nat):List UInt8:=if k=0 then Eo l else jr (l.drop k)
def Ar7(l:List (List UInt8)):l.length<=(Eo l).length+1:=by
 have:∀ l:List (List UInt8),l.length<=(jr l).length:=fun l=>by
  induction l with
  | nil=>simp
  | cons a l ih=>simp[jr];omega
 cases l with
 | nil=>simp
 | cons a l=>rw[Aep];have:=this l;simp;omega
def Ac6{α:Type}(f:α->List UInt8)(hf:∀ x,1<=(f x).length):∀ l:List α,l.length<=((l.map f).flatten).length
 | []=>by simp
 | y::l=>by
  have:=Ac6 f hf l;have:=hf y;rw[Bb,Ey,Aj,Ak];omega
def Atk{K:List It}{Q:Env->St->Prop}{A C:V}{l:List (List UInt8)}{z:Bool}{u j0:Nat}{nm:List UInt8}{line:Int}{B:V}{s:St}(hs:s[j0]?=some (.row [.str nm,iV line,SL z u (l.map fun x=>[V.str x]),B] 50 0 0))(qb:List UInt8)(hl:qb.length+(Eo l).length<=100000000000000)
  (h:W TT PT K [(1,A),(3,.str (qb++Eo l)),(5,C),(6,.ptr j0 0 0),(7,iV (l.length:Int))] s Q) :
  W TT PT (.l [1,3,5,6,7] lp10_1::.b 4::K) [(1,A),(3,.str qb),(5,C),(6,.ptr j0 0 0),(7,iV 0)] s Q:=by
 have qN:=Ar7 l;have qs:(l.map fun x=>[V.str x]).length=l.length:=Ba ..;refine Bv (α:=Nat × List UInt8) (fun a=>l.length - a.1) (fun a=>[(1,A),(3,.str a.2),(5,C),(6,.ptr j0 0 0),(7,iV (a.1:Int))]) (fun _=>s) (fun a=>a.1<=l.length/\a.2++Pv l a.1=qb++Eo l) ?_ (0,qb) ⟨Ay _,rfl⟩;rintro⟨i,c⟩ ⟨hi,hc⟩ ih;simp only at hi hc ih;refine Bw (by delta lp10_1;exact rfl) ?_;have qd:=congrArg List.length hc;simp only[Aj]at qd;rcases Br i l.length with h' | h'
 .obtain⟨x,hx,hd,hm⟩:=Cw h';have qm:=Bf (show i<9223372036854775807 by omega);by_cases qx:i=0
  .subst qx;have f0:((0:Int)<((0:Nat):Int))=False:=eq_false (by omega);have qG:((0:Int)<0)=False:=eq_false (by omega);have f1:((0:Int)<(l.length:Int))=True:=eq_true (by omega);have qK:l=x::l.drop 1:=by simpa using hd
   have hj:Pv l 0=x++jr (l.drop 1):=by
    unfold Pv;rw[if_pos rfl]
    conv=>lhs;rw[qK]
    exact Aep x _
   rw[hj]at hc qd;rw[Aj]at qd;have a1:Ai .add c x=some (.str (c++x)):=Am (by omega) rfl;simp only[go_sem,hs,qs,f1,f0,qG,Aq,hx,↓a1,qm];refine Bd (ih (1,c++x) (by simp;omega) ⟨by simp;omega,?_⟩) rfl;simp only;rw[<-hc,D9];rfl
  .have f0:((0:Int)<(i:Int))=True:=eq_true (by omega)
   have hj:Pv l i=44::32::(x++jr (l.drop (i+1))):=by
    unfold Pv;rw[if_neg qx,hd,jr]
   rw[hj]at hc qd;simp only[Ak,Aj]at qd;have a1:Ai .add c [44,32]=some (.str (c++[44,32])):=Am (by simp;omega) rfl;have a2:Ai .add (c++[44,32]) x=some (.str (c++44::32::x)):=Am (by simp;omega) (by simp);simp only[go_sem,hs,qs,Bp h',f0,↓a1];simp only[go_sem,hs,Aq,hx,↓a2,qm];refine Bd (ih (i+1,c++44::32::x) (by simp;omega) ⟨by simp;omega,?_⟩) rfl;simp only;rw[<-hc];unfold Pv;rw[if_neg (by omega)];simp
 .obtain rfl:i=l.length:=by omega
  have hj:Pv l l.length=[]:=by
   unfold Pv
   split
   .rename_i h0;rw[Acb h0];rfl
   .rw[F4 h'];rfl
  rw[hj,Cm]at hc;subst hc;simp only[go_sem,hs,qs,Ce h'];exact h
def Zn{p:Gp}(h:CnG p)(hl:(Fy p).length<=100000000000000):Fn TT PT 10 [.agg p.row] (.str (Fy p)):=by
 obtain⟨hD,hT⟩:=h;obtain⟨dz,dt,decls,tz,tt,thrs⟩:=p;simp only at hD hT;unfold Fy at hl ⊢;simp only at hl ⊢;unfold Gp.row;simp only;have n1:(decls.map Dp.row).length=decls.length:=Ba ..;have n2:(thrs.map Tp.row).length=thrs.length:=Ba ..;rw[Aj]at hl;have c1:=Ac6 (fun d=>E1 d++[59,10]) (fun x=>by simp) decls;have c2:=Ac6 Ew (fun x=>by simp[Ew]) thrs;refine Bn T10 rfl ?_;simp only[go_sem];refine Bv (α:=Nat × List UInt8) (fun a=>decls.length - a.1) (fun a=>[(1,.ptr 0 0 0),(3,.str a.2),(4,iV (a.1:Int))]) (fun _=>[.row [SL dz dt (decls.map Dp.row),SL tz tt (thrs.map Tp.row)] 28 0 0]) (fun a=>a.1<=decls.length/\a.2++((decls.drop a.1).map fun d=>E1 d++[59,10]).flatten=(decls.map fun d=>E1 d++[59,10]).flatten) ?_ (0,[]) ⟨Ay _,rfl⟩;rintro⟨i,qb⟩ ⟨hi,hc⟩ ih;simp only at hi hc ih;refine Bw (by delta lp10_0;exact rfl) ?_;have qd:=congrArg List.length hc;simp only[Aj]at qd;rcases Br i decls.length with h' | h'
 .obtain⟨x,hx,hd,hm⟩:=Cw h';rw[hd,Bb,Ey]at hc qd;simp only[Aj,Ak,C0]at qd;obtain⟨e1,e2⟩:=Avw (hD x hm).kind;have hf:=Avv (hD x hm) (by omega) (fun h5=>by have:=e2 h5;omega);have a1:Ai .add qb (E1 x++[59,10])=some (.str (qb++(E1 x++[59,10]))):=Am (by simp;omega) rfl;have qa:x.row=[iV x.kind,iV x.line,.str x.nm,iV x.size,iV x.init,.str x.on]:=rfl;rw[qa]at hf;simp only[go_sem,n1,Bp h',Aq,hx,qa];refine Ad hf (by simp only[go_sem]) ?_;simp only[go_sem,↓a1,Bf (show i<9223372036854775807 by omega)];refine Bd (ih (i+1,qb++(E1 x++[59,10])) (by simp;omega) ⟨by simp;omega,?_⟩) rfl;simp only;rw[D9];exact hc
 .obtain rfl:i=decls.length:=by omega
  rw[F4 h']at hc;simp only[By,Acl,Cm]at hc;subst hc;clear ih;simp only[go_sem,n1,Ce h'];refine Bv (α:=Nat × List UInt8 × St) (fun a=>thrs.length - a.1) (fun a=>[(1,.ptr 0 0 0),(3,.str a.2.1),(5,iV (a.1:Int))]) (fun a=>a.2.2) (fun a=>a.1<=thrs.length/\a.2.1++((thrs.drop a.1).map Ew).flatten=(decls.map fun d=>E1 d++[59,10]).flatten++(thrs.map Ew).flatten/\a.2.2[0]?=some (.row [SL dz dt (decls.map Dp.row),SL tz tt (thrs.map Tp.row)] 28 0 0)) ?_ (0,_,_) ⟨Ay _,rfl,rfl⟩;rintro⟨i,qb,s⟩ ⟨hi,hc,hs⟩ ih;simp only at hi hc hs ih;refine Bw (by delta lp10_2;exact rfl) ?_;have qd:=congrArg List.length hc;simp only[Aj]at qd;rcases Br i thrs.length with h' | h'
  .obtain⟨x,hx,hd,hm⟩:=Cw h';rw[hd,Bb,Ey]at hc qd;rw[Aj]at qd;have qD:=hT x hm;obtain⟨nm,line,lz,lt,locals,bz,bt,body⟩:=x;simp only at qD
   have qI:(Ew ⟨nm,line,lz,lt,locals,bz,bt,body⟩).length=nm.length+(Eo locals).length+(Sp.txts 1 body).length+14:=by
    simp[Ew];omega
   have hb:=Adp bz bt 1 body (fun q hq=>Akw (qD q hq) 1 (by have:=Vm 1 hq;omega)) (by omega) (by have:=Vg body 1;omega);obtain⟨s',qu⟩:∃ s',s'=s++[Ob.row [.str nm,iV line,SL lz lt (locals.map fun x=>[V.str x]),SL bz bt (body.map Sp.row)] 50 0 0]:=⟨_,rfl⟩;have k1:s'[s.length]?=some (.row [.str nm,iV line,SL lz lt (locals.map fun x=>[V.str x]),SL bz bt (body.map Sp.row)] 50 0 0):=by rw[qu,Cj (Ah _),Gc];rfl
   have k0:s'[0]?=some (.row [SL dz dt (decls.map Dp.row),SL tz tt (thrs.map Tp.row)] 28 0 0):=by rw[qu];exact Bx hs
   have qa:Tp.row ⟨nm,line,lz,lt,locals,bz,bt,body⟩=[.str nm,iV line,SL lz lt (locals.map fun x=>[V.str x]),SL bz bt (body.map Sp.row)]:=rfl;have a1:Ai .add qb [116,104,114,101,97,100,32]=some (.str (qb++[116,104,114,101,97,100,32])):=Am (by simp;omega) rfl;have a2:Ai .add (qb++[116,104,114,101,97,100,32]) nm=some (.str (qb++116::104::114::101::97::100::32::nm)):=Am (by simp;omega) (by simp);have a3:Ai .add (qb++116::104::114::101::97::100::32::nm) [40]=some (.str (qb++116::104::114::101::97::100::32::(nm++[40]))):=Am (by simp;omega) (by simp);simp only[go_sem,hs,n2,Bp h',Aq,hx,qa,↓a1,↓a2,↓a3];rw[<-qu];refine Atk k1 _ (by simp;omega) ?_;rw[show qb++116::104::114::101::97::100::32::(nm++[40])++Eo locals=qb++116::104::114::101::97::100::32::(nm++40::Eo locals) by simp];have a4:Ai .add (qb++116::104::114::101::97::100::32::(nm++40::Eo locals)) [41,32,123,10]=some (.str (qb++116::104::114::101::97::100::32::(nm++40::(Eo locals++[41,32,123,10])))):=Am (by simp;omega) (by simp);have a5:Ai .add (qb++116::104::114::101::97::100::32::(nm++40::(Eo locals++[41,32,123,10]))) (Sp.txts 1 body)=some (.str (qb++116::104::114::101::97::100::32::(nm++40::(Eo locals++41::32::123::10::Sp.txts 1 body)))):=Am (by simp;omega) (by simp);have a6:Ai .add (qb++116::104::114::101::97::100::32::(nm++40::(Eo locals++41::32::123::10::Sp.txts 1 body))) [125,10]=some (.str (qb++116::104::114::101::97::100::32::(nm++40::(Eo locals++41::32::123::10::(Sp.txts 1 body++[125,10]))))):=Am (by simp;omega) (by simp);simp only[go_sem,k1,↓a4];refine Ad hb (by simp only[go_sem]) ?_;simp only[go_sem,↓a5,↓a6,Bf (show i<9223372036854775807 by omega)];refine Bd (ih (i+1,qb++Ew ⟨nm,line,lz,lt,locals,bz,bt,body⟩,s') (by simp;omega) ⟨by simp;omega,by simp only;rw[D9];exact hc,k0⟩) (by simp[Ew];rfl)
  .obtain rfl:i=thrs.length:=by omega
   rw[F4 h']at hc;simp only[By,Acl,Cm]at hc;subst hc;simp only[go_sem,hs,n2,Ce h'];exact E7 rfl
def Azo(n:Int):(Jc n).length<=24:=by
 have:=Td n;unfold Jc
 split
 .simp
 .simp only[Ak];omega
def Aqi{d:Dp}(h1:d.nm.length<=12)(h2:d.on.length<=12):(E1 d).length<=80:=by
 have a1:=Azo d.init;have a2:=Td d.size
 have a3:(if d.size=0 then [] else 91::(Ct d.size++[93])).length<=23:=by
  split
  .simp
  .simp;omega
 unfold E1
 split
 .simp only[Aj,Ak,C0];omega
 split
 .simp only[Aj,Ak,C0];omega
 split
 .simp only[Aj,Ak,C0];omega
 split
 .simp only[Aj,Ak,C0];omega
 split
 .simp only[Aj,Ak,C0];omega
 .simp only[Aj,Ak,C0];omega
def Ajn(a:List UInt8)(l:List (List UInt8)):(Eo (a::l)).length<=a.length+2+(Eo l).length:=by
 cases l with
 | nil=>simp[Eo]
 | cons b l=>simp only[Eo,Aj,Ak];omega
def E6{v:V}(h:v.rowB=true):v.cellB=true:=by cases v<;>simp[V.rowB]at h<;>rfl
def Ada{v:V}(h:v.cellB=true):v.cells=[v]/\[v].all V.cellB=true:=⟨by cases v<;>simp[V.cellB]at h<;>rfl,by simp only[Av,Be,h];rfl⟩
def Jz(s:List UInt8):List V:=[.str s]
def Aof{s s':St}{m m' e e' qE n:Nat}{u w:V}{ys:List (List V)}(he:e≠e')(hu:u=.nils\/∃ i g cs,u=.sl i g 0 n m true/\s[i]?=some (.row cs e g 0))(h:GW s m' e' qE w ys)(hf:∀ j,(∀ i g,u=.sl i g 0 n m true->j≠i)->j<s.length->s'[j]?=s[j]?):GW s' m' e' qE w ys:=by
 rcases h with h | ⟨hn,j,g,rfl,ho,qJ⟩
 .exact .inl h
 .refine .inr ⟨hn,j,g,rfl,?_,qJ⟩;rw[hf j ?_ (Ap.1 ho).1]
  .exact ho
  .rintro i g' rfl rfl;rcases hu with hu | ⟨i,g2,cs,hu,hs⟩
   .cases hu
   .cases hu;rw[hs]at ho;cases ho;exact he rfl
def Aog{s:St}{m e lo:Nat}{u:V}{xs:List (List V)}(h:GW s m e lo u xs):u=.nils\/∃ i g cs,u=.sl i g 0 xs.length m true/\s[i]?=some (.row cs e g 0):=by
 rcases h with⟨h,-⟩ | ⟨-,i,g,h,ho,-⟩
 .exact .inl h
 .exact .inr ⟨i,g,_,h,ho⟩
def Q0(z:Bool)(t:Nat)(xs:List (List V)):(SL z t xs).rowB=true:=by
 unfold SL
 split<;>rfl
def Aky(x:Tp):x.row.all V.rowB=true:=by
 unfold Tp.row;simp only[Av,Be,Q0];rfl
def Y5(D:List Dp):∀ r∈D.map Dp.row,r.length=6:=by intro r hr;obtain⟨x,-,rfl⟩:=Dq.1 hr;rfl
def Adq(D:List Dp):∀ r∈D.map Dp.row,r.all V.rowB=true:=by intro r hr;obtain⟨x,-,rfl⟩:=Dq.1 hr;rfl
def Qq(D:List Tp):∀ r∈D.map Tp.row,r.length=4:=by intro r hr;obtain⟨x,-,rfl⟩:=Dq.1 hr;rfl
def Y6(D:List Tp):∀ r∈D.map Tp.row,r.all V.rowB=true:=by intro r hr;obtain⟨x,-,rfl⟩:=Dq.1 hr;exact Aky x
